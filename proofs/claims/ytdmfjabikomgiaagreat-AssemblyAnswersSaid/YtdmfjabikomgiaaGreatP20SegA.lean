/- Laws of the printed functions. -/
import Derived.Test.YtdmfjabikomgiaaGreatP20Fn0
import Derived.Test.YtdmfjabikomgiaaGreatP20Fn1
import Derived.Test.YtdmfjabikomgiaaGreatP20Fn2
import Derived.Test.YtdmfjabikomgiaaGreatP20Fn3
import Derived.Test.YtdmfjabikomgiaaGreatP20Fn4
import Derived.Test.YtdmfjabikomgiaaGreatP20Fn5
import Derived.Test.YtdmfjabikomgiaaGreatP20Fn6
import Derived.Test.YtdmfjabikomgiaaGreatP20Fn7
import Derived.Test.YtdmfjabikomgiaaGreatP20Fn8
import Derived.Test.YtdmfjabikomgiaaGreatMachT
import Derived.Sort.Statements
import Derived.Test.YtdmfjabikomgiaaGreatMachC
import Derived.Maps.OwnSet
import Derived.Maps.OwnOps
import Derived.Maps.Own
import Derived.WalkKit
import Derived.Test.YtdmfjabikomgiaaGreatP20Env
import Derived.Test.YtdmfjabikomgiaaGreatP20Df
import Derived.Lib.AppendZeros
import Derived.OwnWalk
import Derived.Deep.RegionHeld3
import Derived.Shelf.RegionOpenPlain
import Derived.Lib.AppendZerosOnto
import Derived.Test.YtdmfjabikomgiaaGreatP20Fchk
namespace Go.Proofs.YtdmfjabikomgiaaGreat
open Go Go.Ab Go.Sort
end Go.Proofs.YtdmfjabikomgiaaGreat
namespace Go.Proofs.YtdmfjabikomgiaaGreat
open Go Go.Ab Go.RowKit Go.Maps
variable {k : Nat} {w wr : World}
theorem qwk:Keyed Tryz.prog 3:=int_keyed Tryz.underlying3
theorem y4q(w:World):(zeroValue 3).run Tryz.prog w=.ok (.int .i64 0) w:=by simp
structure ConsD(zs:List (Int×Int))(k:Nat)(D:DataW Unit):Prop where
 map:IsMap D
 has:∀a,Maps.has D (.int .i64 a)=true↔∃p∈zs.take k,p.1=a
 at':∀p∈zs.take k,D.atKey (.int .i64 p.1) (.lit (.int .i64 0))=.lit (.int .i64 p.2)
theorem q7g(p:Int×Int):∀l:List (Int×Int),q3u (l++[p])=(q3u l&&l.all fun y=>!(decide (y.1=p.1)&&!decide (y.2=p.2)))|[]=>rfl|x::r=>by simp only[List.cons_append,q3u,q7g p r,List.all_append,List.all_cons,List.all_nil,Bool.and_true];cases r.all (fun y=>!(decide (x.1=y.1)&&!decide (x.2=y.2)))<;>cases q3u r<;>cases(!(decide (x.1=p.1)&&!decide (x.2=p.2)))<;>cases(r.all fun y=>!(decide (y.1=p.1)&&!decide (y.2=p.2)))<;>rfl
theorem qla:∀(l r:List (Int×Int)),q3u (l++r)=true->q3u l=true|[],_,_=>rfl|x::l,r,h=>by simp only[List.cons_append,q3u,List.all_append,aT]at h⊢;exact⟨h.1.1,qla l r h.2⟩
theorem qad{zs:List (Int×Int)}{p:Int×Int}(h:zs[k]?=some p):zs.take (k+1)=zs.take k++[p]:=by rw[List.take_add_one,h];rfl
theorem ConsD.put{zs:List (Int×Int)}{D:DataW Unit}{p:Int×Int}(h:ConsD zs k D)(hp:zs[k]?=some p)(hsame:∀q∈zs.take k,q.1=p.1->q.2=p.2):ConsD zs (k+1) (D.put (.int .i64 p.1) (.lit (.int .i64 p.2))):=by
 have hk:WideAt.IsKeyLit (.int .i64 p.1):=by first|trivial|exact .inl ⟨_,_,rfl⟩|simp[WideAt.IsKeyLit]
 refine⟨h.map.put _ _,fun a=>?_,fun q hq=>?_⟩
 .rw[qad hp];by_cases he:a=p.1;·subst he;simp only[has_put_same h.map hk];simp
  .rw[has_put_other (by intro e;injection e with _ e;exact he e),h.has a];constructor;·rintro⟨q,h1,h2⟩;exact⟨q,by simp[h1],h2⟩
   grind
 .rw[qad hp]at hq;by_cases he:q.1=p.1;·rw[he,atKey_put_same h.map hk];grind
  .rw[atKey_put_other (by intro e;injection e with _ e;exact he e)];rcases List.mem_append.1 hq with h1|h1;·exact h.at' q h1
   simp_all
theorem qtt{w':World}(hg:wr.grownBy w' none)(h:Below w.heap.size w wr):w.grownBy w' none:=⟨hg.os.trans h.os,hg.tape.trans h.tape,hg.output.trans h.output,Nat.le_trans h.size hg.size,fun j hj _=>(hg.block j (Nat.lt_of_lt_of_le hj h.size) (by simp)).trans (h.block j hj)⟩
theorem qjk{w1:World}{o:Obj}(h:Below w.heap.size w wr)(hg:(wr.alloc o).grownBy w1 (some w.heap.size)):Below w.heap.size w w1:=(h.alloc h.size o).grown hg (by simpa using Nat.le_succ_of_le h.size) (fun j hj=>by simp_all)
set_option maxRecDepth 100000 in
theorem y7l(b off cap:Nat)(zs:List (Int×Int))(w:World)(hreach:zs.length<=1073741824)(hc:∀j p,zs[j]?=some p->w.cell? ⟨b,off+j*2,none⟩=some (.int .i64 p.1)/\w.cell? ⟨b,off+j*2+1,none⟩=some (.int .i64 p.2))(hw:∀p∈zs,(Lit.int .i64 p.1).wf=true/\(Lit.int .i64 p.2).wf=true):Calls Tryz.prog 148 #[.slice (some ⟨b,off,none⟩) zs.length cap] w fun e w'=>e=.returned (.bool (q3u zs))/\w.grownBy w' none:=by
 have hmm:=@run_makeMap Tryz.prog;go_enter Tryz.func148,Tryz.ntmps148;go_wp2;go_loopw [11](fun i wr=>∃(k:Nat)(D:DataW Unit),k<=zs.length/\i=.int .i64 k/\wr.ownsMap Tryz.prog 3 (plainElem Tryz.prog 3) w.heap.size k D/\Below w.heap.size w wr/\ConsD zs k D/\q3u (zs.take k)=true)(fun i _=>zs.length-(intOf i).toNat);case atStart=>exact⟨0,.map [],Nat.zero_le _,rfl,World.ownsMap_made _ _ _ _,(Below.refl _ _).alloc (Nat.le_refl _) _,⟨isMap_empty,fun a=>by simp[Maps.has_eq],fun p hp=>by simp at hp⟩,rfl⟩
 case round=>
  obtain⟨k,D,hk,rfl,hown,hnx,hD,hok⟩:=hrel;have hk2:k<zs.length->∃p,zs[k]?=some p/\wr.cell? ⟨b,off+k*2,none⟩=some (.int .i64 p.1)/\wr.cell? ⟨b,off+k*2+1,none⟩=some (.int .i64 p.2):=fun hlt=>by
   have hlz:k<zs.length:=by omega
   have hb:b<w.heap.size:=World.block_lt_of_cell? w ⟨b,off+k*2,none⟩ (hc k zs[k] (by simp[hlz])).1;exact⟨zs[k],by simp[hlz],(hnx.cell (by exact hb)).trans (hc k zs[k] (by simp[hlz])).1,(hnx.cell (by exact hb)).trans (hc k zs[k] (by simp[hlz])).2⟩
  by_cases hlt:k<zs.length
  .obtain⟨p,hp,c0,c1⟩:=hk2 hlt;have c0':wr.cell? ⟨b,off+k*2+0,none⟩=some (.int .i64 p.1):=c0;have hkey:keyOf Tryz.prog 3 (.int .i64 p.1)=some (.int .i64 p.1):=keyOf_int_mk Tryz.underlying3 (hw p (List.mem_of_getElem? hp)).1;go_wp2_with(first|(at_lookup;refine wpList_lookup_own_ok_int _ rfl _ _ 186 rfl 3 3 .i64 qwk Tryz.underlying186 Tryz.underlying3 (y4q _) w.heap.size k D rfl (hown.alloc _) _ _ rfl hkey ?_;intro c hat hwc)|(at_mapUpdate;refine wpList_mapUpdate_own _ rfl _ _ _ 186 rfl 3 3 qwk Tryz.underlying186 _ w.heap.size k _ rfl (hown.alloc _) (by unfold maxLen;omega) _ _ _ rfl rfl hkey _ [] (plainElem_int Tryz.underlying3 (hw p (List.mem_of_getElem? hp)).2) ?_;intro w1 hown1 hgrow1)|go_in)
   .rename_i hhas hne;go_ret;obtain⟨q,hq,hq1⟩:=(hD.has p.1).1 hhas;have hq2:=hD.at' q hq;rw[hq1,hat]at hq2;have hcq:c=q.2:=by injection hq2 with e;injection e
    have hf:q3u zs=false:=by cases hz2:q3u zs with|false=>rfl|true=>
      have h3:q3u (zs.take (k+1))=true:=qla _ (zs.drop (k+1)) (by rw[List.take_append_drop];exact hz2);rw[qad hp,q7g,aT,List.all_eq_true]at h3;have h4:=h3.2 q hq;have h5:c≠p.2:=by simpa using hne
      simp[hq1,<-hcq,h5]at h4
    rw[hf];exact⟨rfl,qtt (World.grownBy_alloc _ _ _) hnx⟩
   .rename_i hhas hne;have hce:c=p.2:=by simpa using hne
    go_roundw;case rel=>exact⟨k+1,_,by omega,by go_num,hown1,qjk hnx hgrow1,hD.put hp (fun q hq h1=>by
      have hq2:=hD.at' q hq;rw[h1,hat]at hq2;have hcq:c=q.2:=by injection hq2 with e;injection e
      rw[<-hcq,hce]),by
     rw[qad hp,q7g,hok,tA',List.all_eq_true];intro q hq;by_cases h1:q.1=p.1
     .have hq2:=hD.at' q hq;rw[h1,hat]at hq2;have hcq:c=q.2:=by injection hq2 with e;injection e
      simp[<-hcq,hce]
     .simp[h1]⟩
    case measure=>simp[intOf];omega
   .rename_i hhas;have hno:∀q∈zs.take k,q.1≠p.1:=fun q hq h1=>hhas ((hD.has p.1).2 ⟨q,hq,h1⟩);go_roundw;case rel=>exact⟨k+1,_,by omega,by go_num,hown1,qjk hnx hgrow1,hD.put hp (fun q hq h1=>absurd h1 (hno q hq)),by rw[qad hp,q7g,hok,tA',List.all_eq_true];intro q hq;simp[hno q hq]⟩
    case measure=>simp[intOf];omega
  .go_wp2;go_ret;have hk3:zs.take k=zs:=List.take_of_length_le (by omega);rw[hk3]at hok;rw[hok];exact⟨rfl,hnx.os,hnx.tape,hnx.output,hnx.size,fun j hj _=>hnx.block j hj⟩
theorem qq9(a:Option Addr)(cap:Nat)(w:World):Calls Tryz.prog 148 #[.slice a 0 cap] w fun e w'=>e=.returned (.bool true)/\w.grownBy w' none:=by have hmm:=@run_makeMap Tryz.prog;go_enter Tryz.func148,Tryz.ntmps148;go_wp2;refine wp_loop_rounds 1 ?_;rw[rounds_succ];go_wp2;go_ret;exact⟨rfl,World.grownBy_alloc _ _ _⟩
theorem qai:∀{xs:List D}{l:List (Int×Int)},q61 xs=some l->xs=l.map (fun p=>D.agg [.v (.int .i64 p.1),.v (.int .i64 p.2)])/\∀p∈l,(Lit.int .i64 p.1).wf=true/\(Lit.int .i64 p.2).wf=true
 |[],l,h=>by simp only[q61,sI]at h;simp_all|x::r,l,h=>by
  unfold q61 at h;split at h;·rename_i he;cases he
  .rename_i a b r' he;cases he;split at h
   .rename_i hc;simp only[Option.map_eq_some_iff]at h;obtain⟨l',h1,rfl⟩:=h;obtain⟨g1,g2⟩:=qai h1;refine⟨by rw[g1];rfl,fun p hp=>?_⟩;rcases List.mem_cons.1 hp with rfl|hp;·exact⟨WalkArith.wf_i64 (by omega),WalkArith.wf_i64 (by omega)⟩
    .exact g2 p hp
   .cases h
  grind
theorem qt5{X:Cx}{v:AV}{args:Array Value}(h:Ab.ArgRel w X [v] args):args=#[args.getD 0 undef]/\RVl w X (.res 0) v (args.getD 0 undef):=by
 refine⟨?_,(h.2 0 v rfl).2⟩;apply Array.ext;·exact h.1
 .intro i h1 h2;have hi:i=0:=by simp at h2;omega
  subst hi;simp_all
theorem qlq:LibOk env 148 q4c:=by
 intro vs hp v hp' hm X w args hH hA;unfold q4c at hm;split at hm
 .rename_i xs;split at hm
  .rename_i l hl;split at hm
   .rename_i hlen;simp only[sI,pI]at hm;obtain⟨rfl,rfl⟩:=hm;obtain⟨hx,hwf⟩:=qai hl;obtain⟨ha,hr⟩:=qt5 hA;rw[ha];have hr':Rep w X.imm (.list xs) (args.getD 0 undef):=hr;generalize args.getD 0 undef=u at hr';have fin:∀(e:Ending)(w1:World),e=.returned (.bool (q3u l))/\w.grownBy w1 none->∃val,e=.returned val/\∃X1,(∃more,X1.mu=X.mu++more)/\Ext X w X1 w1/\HRel env X1 [] w1/\ResRel w1 X1 (.d (.v (.bool (q3u l)))) val:=fun e w1 h=>⟨_,h.1,y4n hH h.2 (.v _ rfl)⟩
    cases hr' with|empty a c=>
     have:l=[]:=by cases l with|nil=>rfl|cons p l=>cases hx
     subst this;exact(qq9 a c w).mono fun e w1 h=>fin e w1 h|list _ b off cap sz V hs hc hh hrr=>
     subst hx;by_cases hne:l=[];·subst hne;exact(qq9 _ cap w).mono fun e w1 h=>fin e w1 h
     .have hsz:sz=2:=by obtain⟨p,hp⟩:=List.exists_mem_of_ne_nil _ hne;rw[<-hs _ (List.mem_map.2 ⟨p,hp,rfl⟩)];rfl
      subst hsz;have hlm:(l.map fun p=>D.agg [.v (.int .i64 p.1),.v (.int .i64 p.2)]).length=l.length:=by simp
      rw[hlm];refine(y7l b off cap l w (by unfold q07 at hlen;exact hlen) (fun j p hj=>?_) hwf).mono fun e w1 h=>fin e w1 h;have hj':(l.map fun p=>D.agg [.v (.int .i64 p.1),.v (.int .i64 p.2)])[j]?=some (D.agg [.v (.int .i64 p.1),.v (.int .i64 p.2)]):=by rw[List.getElem?_map,hj];rfl
      have k0:=hh j _ hj' 0 _ rfl;have k1:=hh j _ hj' 1 _ rfl;have r0:=q0y (hrr j _ hj' 0 _ rfl);have r1:=q0y (hrr j _ hj' 1 _ rfl);rw[r0]at k0;rw[r1]at k1;exact⟨k0.1,k1.1⟩
   .cases hm
  .cases hm
 simp_all
end Go.Proofs.YtdmfjabikomgiaaGreat
namespace Go.Proofs.YtdmfjabikomgiaaGreat
open Go Go.Ab Go.RowKit
set_option maxRecDepth 100000 in
theorem qq1(w:World):Calls Tryz.prog 255 #[.slice none 0 0,.int .i64 0] w fun e w'=>e=.returned (.slice none 0 0)/\w'=w:=by go_enter Tryz.func255,Tryz.ntmps255;go_wp2;go_ret;exact⟨rfl,rfl⟩
set_option maxRecDepth 100000 in
theorem y25(n:Nat)(h0:0<n)(hn:n<=1073741824)(w:World):Calls Tryz.prog 255 #[.slice none 0 0,.int .i64 n] w fun e w'=>∃v,e=.returned v/\w.grownBy w' none/\w'.ownsRow w.heap.size 66 2 v 0 []:=by obtain⟨i,hi,hz0,hz1,hz2⟩:∃i,Tryz.prog.info? 66=some i/\i.zero=some (.agg #[.int .i64 0,.int .i64 0])/\i.size=2/\i.bytes=16:=⟨_,rfl,rfl,rfl,rfl⟩;go_enter Tryz.func255,Tryz.ntmps255;go_wp2_with(first|(at_builtin;refine Go.Lib.wpList_append_run _ rfl _ _ _ _ rfl _ _ rfl rfl _ _ (Go.Lib.run_append_nil_zeros (P:=Tryz.prog) _ 51 3 _ 66 i _ .i64 .i64 Tryz.underlying51 Tryz.underlying3 hi hz0 n h0 (by omega) (by omega) (by rw[hz2];omega)) ?_)|go_in);go_ret;have hge:=grownCap_ge w n 0 66;refine⟨_,rfl,⟨rfl,rfl,rfl,by simp,fun k hk _=>heap_alloc_old w _ hk⟩,by simp,.inr ⟨_,_,_,rfl,Nat.le_refl _,heap_alloc_new _ _,Nat.zero_le _,grownCap_le_maxLen _ _ _ _ (by unfold maxLen;omega),?_,by simp⟩⟩;simp only[Array.size_append,size_zeroCells];show n*2+(grownCap w n 0 66-n)*2=_;omega
set_option maxRecDepth 100000 in
theorem qz9(b off cap:Nat)(vs:List (Option Addr×Nat×Nat))(rows:List (List Value))(S:Nat->Nat)(w:World)(hl:rows.length=vs.length)(hS0:S 0=0)(hS:∀(j:Nat)p,vs[j]?=some p->S (j+1)=S j+p.2.1)(hlen:vs.length<=1073741824)(hSm:∀k,k<=vs.length->S k<=S vs.length)(hSt:S vs.length<=1073741824)(hc:∀(j:Nat)p,vs[j]?=some p->w.cell? ⟨b,off+j,none⟩=some (.slice p.1 p.2.1 p.2.2))(hr:∀(j:Nat)p(r:List Value),vs[j]?=some p->rows[j]?=some r->r.length=p.2.1*2/\(∀u∈r,u.oneCell'=true)/\(0<p.2.1->∃a:Addr,p.1=some a/\∀(k:Nat)u,r[k]?=some u->w.cell? (a.add k)=some u)):Calls Tryz.prog 242 #[.slice (some ⟨b,off,none⟩) vs.length cap] w fun e w'=>∃v,e=.returned v/\w.grownBy w' none/\w'.ownsRow w.heap.size 66 2 v (S vs.length) rows.flatten/\(S vs.length=0->v=.slice none 0 0):=by
 have hG:Calls Tryz.prog 255 #[.slice none 0 0,.int .i64 (S vs.length)] w fun e w'=>∃v,e=.returned v/\w.grownBy w' none/\w'.ownsRow w.heap.size 66 2 v 0 []/\(S vs.length=0->v=.slice none 0 0):=by
  by_cases h0:S vs.length=0;·rw[h0];refine(qq1 w).mono ?_;rintro e w'⟨rfl,rfl⟩;exact⟨_,rfl,⟨rfl,rfl,rfl,Nat.le_refl _,fun _ _ _=>rfl⟩,World.ownsRow_nil _ _ _ _,fun _=>rfl⟩
  .refine(y25 _ (by omega) hSt w).mono ?_;rintro e w'⟨v,rfl,h1,h2⟩;exact⟨v,rfl,h1,h2,fun e=>absurd e h0⟩
 obtain⟨i,hi,hz0,hz1,hz2⟩:∃i,Tryz.prog.info? 66=some i/\i.zero=some (.agg #[.int .i64 0,.int .i64 0])/\i.size=2/\i.bytes=16:=⟨_,rfl,rfl,rfl,rfl⟩;go_enter Tryz.func242,Tryz.ntmps242;go_wp2;go_loopw [3,11](fun s i wr=>∃k:Nat,k<=vs.length/\i=.int .i64 k/\s=.int .i64 (S k)/\w=wr)(fun _ i _=>vs.length-(intOf i).toNat);case atStart=>exact⟨0,Nat.zero_le _,rfl,by rw[hS0];rfl,rfl⟩
 case round=>
  obtain⟨k,hk,rfl,rfl,rfl⟩:=hrel;by_cases hlt:k<vs.length
  .have hp:vs[k]?=some vs[k]:=by simp[hlt]
   have c0:=hc k _ hp;have hs:=hS k _ hp;have hb1:=hSm (k+1) hlt;have hb0:=hSm k hk;go_wp2;go_roundw;case rel=>exact⟨k+1,by omega,by go_num,by rw[hs];go_num,trivial⟩
   case measure=>simp[intOf];omega
  .have hke:k=vs.length:=by omega
   subst hke;go_wp2_with(first|(go_at_call 255;refine hG.mono ?_;rintro e w1⟨v,rfl,hg1,ho1,hn1⟩)|go_in);go_loopw [6,27](fun v i wr=>∃k:Nat,k<=vs.length/\i=.int .i64 k/\w.grownBy wr none/\wr.ownsRow w.heap.size 66 2 v (S k) (rows.take k).flatten/\(S vs.length=0->v=.slice none 0 0))(fun _ i _=>vs.length-(intOf i).toNat);case atStart=>exact⟨0,Nat.zero_le _,rfl,hg1,by rw[hS0];exact ho1,hn1⟩
   case round=>
    obtain⟨k,hk,rfl,hgr,hor,hnr⟩:=hrel;by_cases hlt:k<vs.length
    .have hp:vs[k]?=some vs[k]:=by simp[hlt]
     have hq:rows[k]?=some rows[k]:=by simp[hl▸hlt]
     have c0:=hgr.cell (hc k _ hp) (by simp);have hs:=hS k _ hp;have hb1:=hSm (k+1) hlt;have hb0:=hSm k hk;obtain⟨r1,r2,r3⟩:=hr k _ _ hp hq;have hflat:(rows.take (k+1)).flatten=(rows.take k).flatten++rows[k]:=by rw[List.take_add_one,hq,List.flatten_append];simp
     have hsh:∃ad c,u6=.slice ad (S k) c/\S k<=c:=by
      rcases hor.2 with⟨h1,h2⟩|⟨g,cp,cur,h1,_,_,h2,_⟩;·exact⟨none,0,by rw[h1,h2],by omega⟩
      .exact⟨_,cp,h1,h2⟩
     by_cases hm:vs[k].2.1=0
     .obtain⟨ad,c,hv,hle⟩:=hsh;have hrk:rows[k]=[]:=List.length_eq_zero_iff.1 (by rw[r1,hm]);go_wp2_with(first|(at_builtin;refine Go.Lib.wpList_append_run _ rfl _ _ _ _ rfl _ _ rfl rfl _ _ (qwa Tryz.underlying51 hi u6 hv (m:=0) rfl hle) ?_)|go_in);go_roundw;case rel=>
       refine⟨k+1,by omega,by go_num,hgr,?_,fun h0=>?_⟩;·rw[hs,hm,Nat.add_zero,hflat,hrk,List.append_nil];first|exact hor|(rw[<-hv];exact hor)
       .first|exact hnr h0|(rw[<-hv];exact hnr h0)
      case measure=>simp[intOf];omega
     .obtain⟨a,ha,hcells⟩:=r3 (by omega);go_wp2_with(first|(at_builtin;refine wpList_append_own _ rfl _ _ 51 rfl w.heap.size 66 i _ 2 16 Tryz.underlying51 hi hz0 hz1 hz2 rfl (by decide) u6 (S k) _ rfl hor a vs[k].2.1 vs[k].2.2 rows[k] (by rw[<-ha];rfl) r1 (fun j u hj=>hgr.cell (hcells j u hj) (by simp)) r2 (by unfold maxLen;omega) (by omega) hgr.size ?_;intro v2 w2 ho2 hg2 hn2)|go_in);go_roundw;case rel=>refine⟨k+1,by omega,by go_num,⟨hg2.os.trans hgr.os,hg2.tape.trans hgr.tape,hg2.output.trans hgr.output,Nat.le_trans hgr.size hg2.size,fun j hj _=>(hg2.block j (Nat.lt_of_lt_of_le hj hgr.size) (fun e=>by have:=(hor.lt j e.symm).1;omega)).trans (hgr.block j hj (by simp))⟩,by rw[hs,hflat];exact ho2,fun h0=>by omega⟩
      case measure=>simp[intOf];omega
    .have hke:k=vs.length:=by omega
     subst hke;go_wp2;go_ret;exact⟨_,rfl,hgr,by rw[List.take_of_length_le (by omega)]at hor;exact hor,hnr⟩
theorem qhq:∀{xss:List D}{ls:List (List D)},qgm xss=some ls->xss=ls.map D.list
 |[],ls,h=>by simp only[qgm,sI]at h;grind|x::r,ls,h=>by
  unfold qgm at h;split at h;·simp_all
  .rename_i xs r' he;cases he;simp only[Option.map_eq_some_iff]at h;obtain⟨l',h1,rfl⟩:=h;rw[qhq h1];rfl
  grind
theorem q65{sz:Nat}{x:D}(h:q5q sz x=true):x.cells.length=sz/\∀c∈x.cells,c.isAgg=false:=by simp only[q5q,aT,dT,List.all_eq_true,Bool.not_eq_true']at h;exact h
theorem y3p{w:World}{I:Nat->Nat->Prop}{sz:Nat}(hz:0<sz):∀(ls:List (List D))(V:Nat->Value),(∀(j:Nat)l,ls[j]?=some l->Rep w I (.list l) (V j))->(∀l∈ls,∀x∈l,x.cells.length=sz/\∀c∈x.cells,c.isAgg=false)->∃(vs:List (Option Addr×Nat×Nat))(rows:List (List Value)),vs.length=ls.length/\rows.length=ls.length/\(∀(j:Nat)p,vs[j]?=some p->V j=.slice p.1 p.2.1 p.2.2)/\vs.map (·.2.1)=ls.map List.length/\(∀(j:Nat)p(r:List Value),vs[j]?=some p->rows[j]?=some r->r.length=p.2.1*sz/\(∀u∈r,u.oneCell'=true)/\(0<p.2.1->∃a:Addr,p.1=some a/\∀(k:Nat)u,r[k]?=some u->w.cell? (a.add k)=some u))/\RowRep w I sz ls.flatten rows.flatten
 |[],V,_,_=>⟨[],[],rfl,rfl,fun j p h=>by grind,rfl,fun j p r h=>by simp,RowRep.nil⟩|l::ls,V,hV,hs=>by
  obtain⟨vs,rows,h1,h2,h3,h4,h5,h6⟩:=y3p (w:=w) (I:=I) hz ls (fun j=>V (j+1)) (fun j l' hj=>hV (j+1) l' (by grind)) (fun l' hl'=>hs l' (by grind));obtain⟨ad,cap,row,g1,g2,g3,g4⟩:=qmu (hV 0 l rfl) (hs l (by simp)) hz;refine⟨(ad,l.length,cap)::vs,row::rows,by grind,by grind,fun j p hj=>?_,by grind,fun j p r hj hr=>?_,?_⟩;·grind
  .cases j with|zero=>simp at hj hr;subst hj;subst hr;refine⟨g2.1,g3,fun hpos=>?_⟩;obtain⟨b,o,e1,e2⟩:=g4 (by grind);exact⟨_,e1,fun k u hk=>by rw[q3h];grind⟩|succ j=>grind
  .rw[List.flatten_cons,List.flatten_cons];exact g2.append h6
set_option maxRecDepth 100000 in
theorem qv1(a:Option Addr)(cap:Nat)(w:World):Calls Tryz.prog 242 #[.slice a 0 cap] w fun e w'=>e=.returned (.slice none 0 0)/\w'=w:=by have hG:=qq1 w;go_enter Tryz.func242,Tryz.ntmps242;go_wp2;refine wp_loop_rounds 1 ?_;rw[rounds_succ];go_wp2_with(first|(go_at_call 255;refine hG.mono ?_;rintro e w1⟨rfl,rfl⟩)|go_in);refine wp_loop_rounds 1 ?_;rw[rounds_succ];go_wp2;go_ret;exact⟨rfl,rfl⟩
theorem qyo:LibOk env 242 (q83 2):=by
 intro vs hp v hp' hm X w args hH hA;unfold q83 at hm;split at hm
 .rename_i xss;split at hm
  .rename_i ls hl;split at hm
   .rename_i hcnd;obtain⟨hlen,hln2,hcell⟩:=hcnd;simp only[sI,pI]at hm;obtain⟨rfl,rfl⟩:=hm;have hx:=qhq hl;obtain⟨ha,hr⟩:=qt5 hA;rw[ha];have hr':Rep w X.imm (.list xss) (args.getD 0 undef):=hr;generalize args.getD 0 undef=u at hr';have hs:∀l∈ls,∀x∈l,x.cells.length=2/\∀c∈x.cells,c.isAgg=false:=fun l hl x hx=>q65 (List.all_eq_true.1 hcell x (List.mem_flatten.2 ⟨l,hl,hx⟩));have none:∀a c,ls=[]->Calls env.P 242 #[.slice a 0 c] w fun e w1=>∃val,e=.returned val/\∃X1,(∃more,X1.mu=X.mu++more)/\Ext X w X1 w1/\HRel env X1 [[.own ls.flatten false]] w1/\ResRel w1 X1 (.ref 0) val:=by intro a c he;subst he;refine(qv1 a c w).mono ?_;rintro e w1⟨rfl,rfl⟩;exact⟨_,rfl,y23 (sz:=2) (e:=66) (row:=[]) hH ⟨rfl,rfl,rfl,Nat.le_refl _,fun _ _ _=>rfl⟩ RowRep.nil (by decide) (World.ownsRow_nil _ _ _ _) (fun _=>⟨_,rfl⟩)⟩
    cases hr' with
    |empty a c=>refine none a c ?_;cases ls with|nil=>rfl|cons l r=>cases hx
    |list _ b off cap sz V hs0 hc0 hh hrr=>
     by_cases hne:ls=[];·subst hx;subst hne;exact none _ cap rfl
     .subst hx;have hsz:sz=1:=by obtain⟨l,hl⟩:=List.exists_mem_of_ne_nil _ hne;rw[<-hs0 _ (List.mem_map.2 ⟨l,hl,rfl⟩)];rfl
      subst hsz;have hget:∀(j:Nat)l,ls[j]?=some l->(ls.map D.list)[j]?=some (D.list l):=fun j l h=>by rw[List.getElem?_map,h];rfl
      obtain⟨vs,rows,h1,h2,h3,h4,h5,h6⟩:=y3p (w:=w) (I:=X.imm) (sz:=2) (by decide) ls (fun j=>V j 0) (fun j l hj=>hrr j _ (hget j l hj) 0 _ rfl) hs;have hL:(ls.map D.list).length=vs.length:=by rw[List.length_map,h1]
      rw[hL];let S:Nat->Nat:=fun k=>((vs.take k).map (·.2.1)).sum;have hSall:S vs.length=ls.flatten.length:=by show((vs.take vs.length).map (·.2.1)).sum=_;rw[List.take_length,h4,List.length_flatten]
      refine(qz9 b off cap vs rows S w (by rw[h2,h1]) rfl (fun j p hj=>?_) (by rw[<-hL];unfold q07 at hln2;exact hln2) (fun k hk=>?_) (by rw[hSall];unfold q07 at hlen;exact hlen) (fun j p hj=>?_) h5).mono ?_;·show((vs.take (j+1)).map (·.2.1)).sum=((vs.take j).map (·.2.1)).sum+_;rw[List.take_add_one,hj];simp
      .show((vs.take k).map (·.2.1)).sum<=((vs.take vs.length).map (·.2.1)).sum;rw[List.take_length];conv=>rhs;rw[<-List.take_append_drop k vs,List.map_append,List.sum_append]
       omega
      .have hjl:j<ls.length:=by rw[<-h1];exact(List.getElem?_eq_some_iff.1 hj).1
       have:=(hh j _ (hget j ls[j] (by simp[hjl])) 0 _ rfl).1;rw[h3 j p hj]at this;simpa using this
      .rintro e w1⟨val,rfl,hg,ho,hn⟩;refine⟨val,rfl,y23 (sz:=2) hH hg h6 (by decide) (by rw[<-hSall];exact ho) (fun he=>⟨Option.none,hn (by rw[hSall,he];rfl)⟩)⟩
   .cases hm
  .cases hm
 grind
variable {w w' wr : World} {b e k n size : Nat} {cur' : Array Value}
structure Al(w w':World):Prop where
 heap:w'.heap=w.heap
 os:w'.os=w.os
 tape:w'.tape=w.tape
 output:w'.output=w.output
theorem Al.refl(w:World):Al w w:=⟨rfl,rfl,rfl,rfl⟩
theorem Al.drew(h:Al w w'):Al w w'.drew:=⟨h.heap,h.os,h.tape,h.output⟩
def Inv(w:World)(b e size:Nat)(zs:List (Int×Int))(n k:Nat)(wr:World):Prop:=∃cur',wr.heap[b]?=some (.cells cur' e (0,0))/\cur'.size=size/\w.grownBy wr (some b)/\(∀(j:Nat)p,(q0j (zs.take n))[j]?=some p->cur'[j*2]?=some (.int .i64 p.1)/\cur'[j*2+1]?=some (.int .i64 p.2))/\(∀(j:Nat)p,k<=j->zs[j]?=some p->cur'[j*2]?=some (.int .i64 p.1)/\cur'[j*2+1]?=some (.int .i64 p.2))
theorem Inv.drew{zs:List (Int×Int)}(h:Inv w b e size zs n k wr):Inv w b e size zs n k wr.drew:=let⟨c,h1,h2,h3,h4,h5⟩:=h;⟨c,h1,h2,⟨h3.os,h3.tape,h3.output,h3.size,h3.block⟩,h4,h5⟩
theorem take2(zs:List (Int×Int))(n:Nat)(y x:Int×Int)(hy:zs[n]?=some y)(hx:zs[n+1]?=some x):q0j (zs.take (n+2))=if y=x then q0j (zs.take (n+1))else q0j (zs.take (n+1))++[x]:=by
 have h1:zs.take (n+1)=zs.take n++[y]:=by rw[List.take_add_one,hy];rfl
 have h2:zs.take (n+2)=zs.take n++[y]++[x]:=by rw[show n+2=n+1+1 from rfl,List.take_add_one,hx,h1];rfl
 rw[h2,h1,q95];by_cases h:y=x<;>simp[h]
theorem Inv.same{zs:List (Int×Int)}{x:Int×Int}(hy:zs[n]?=some x)(hx:zs[n+1]?=some x)(h:Inv w b e size zs (n+1) k wr):Inv w b e size zs (n+2) k wr:=by unfold Inv at h⊢;rw[take2 zs n _ _ hy hx,if_pos rfl];exact h
set_option maxRecDepth 100000 in
theorem qs3(h1:wr.heap[b]?=some (.cells cur' e (0,0)))(hk:(k+1)*2<=cur'.size)(x1 x2:Int):(storeVar 66 ⟨b,k*2,none⟩ (.agg #[.int .i64 x1,.int .i64 x2])).run Tryz.prog wr=.ok () (wr.setRow b (q1t cur' (k*2) [.int .i64 x1,.int .i64 x2])):=by have:=qh2 (P:=Tryz.prog) (w:=wr) (t:=66) (n:=2) (b:=b) (off:=k*2) (val:=.agg #[.int .i64 x1,.int .i64 x2]) (cur:=cur') (e:=e) rfl rfl h1 (by omega) (fun u hu=>by simp[Value.cells]at hu;rcases hu with rfl|rfl<;>rfl);exact this
theorem Inv.put{zs:List (Int×Int)}{y x:Int×Int}(hy:zs[n]?=some y)(hx:zs[n+1]?=some x)(hne:¬y=x)(hk:(q0j (zs.take (n+1))).length=k)(hkn:k<n+1)(h1:wr.heap[b]?=some (.cells cur' e (0,0)))(h2:cur'.size=size)(h3:w.grownBy wr (some b))(h4:∀(j:Nat)p,(q0j (zs.take (n+1)))[j]?=some p->cur'[j*2]?=some (.int .i64 p.1)/\cur'[j*2+1]?=some (.int .i64 p.2))(h5:∀(j:Nat)p,k<=j->zs[j]?=some p->cur'[j*2]?=some (.int .i64 p.1)/\cur'[j*2+1]?=some (.int .i64 p.2)):(q0j (zs.take (n+2))).length=k+1/\Inv w b e size zs (n+2) (k+1) (wr.setRow b (q1t cur' (k*2) [.int .i64 x.1,.int .i64 x.2])):=by
 have hlt:(n+1)*2+1<cur'.size:=(Array.getElem?_eq_some_iff.1 (h5 (n+1) x (by omega) hx).2).1;have hfit:k*2+[Value.int .i64 x.1,.int .i64 x.2].length<=cur'.size:=by grind
 have ht:q0j (zs.take (n+2))=q0j (zs.take (n+1))++[x]:=by rw[take2 zs n _ _ hy hx,if_neg hne]
 refine⟨by simp_all,_,setRow_heap _ _ _ _ _ _ h1,by rw[q5g _ _ _ hfit,h2],World.grown_row _ h3,fun j p hj=>?_,fun j p hkj hj=>?_⟩
 .rw[q3x _ _ _ hfit,q3x _ _ _ hfit];rw[ht]at hj;by_cases hjk:j<k;·grind
  .have hjk2:j=k:=by have:=(List.getElem?_eq_some_iff.1 hj).1;simp[hk]at this;omega
   simp_all
 .rw[q3x _ _ _ hfit,q3x _ _ _ hfit,if_neg (by simp;omega),if_neg (by simp;omega)];grind
set_option maxRecDepth 100000 in
theorem y2z{c:Nat}{ty:TypeId}(h1:wr.heap[b]?=some (.cells cur' e (0,0)))(hn:0<n)(hk:(k+n)*2<=cur'.size):(Builtin.clear_ #[51] ty #[.slice (some ⟨b,k*2,none⟩) n c]).run Tryz.prog wr=.ok (.tuple #[]) (wr.setRow b (q1t cur' (k*2) (Builtin.zeroCells #[.int .i64 0,.int .i64 0] n).toList)):=by
 obtain⟨i,hi,hz0,hz1,hz2⟩:∃i,Tryz.prog.info? 66=some i/\i.zero=some (.agg #[.int .i64 0,.int .i64 0])/\i.size=2/\i.bytes=16:=⟨_,rfl,rfl,rfl,rfl⟩;have hz:(Value.agg #[.int .i64 0,.int .i64 0]).cells=#[.int .i64 0,.int .i64 0]:=rfl;refine y1n (e:=66) Tryz.underlying51 hi hz0 h1 hn (fun u hu=>?_) ?_;·rw[hz]at hu;simp only[Builtin.zeroCells,Array.toList_map,List.mem_map]at hu;obtain⟨j,_,rfl⟩:=hu;have:j%(#[Value.int .i64 0,.int .i64 0]:Array Value).size<2:=Nat.mod_lt _ (by decide);rcases(by omega:j%(#[Value.int .i64 0,.int .i64 0]:Array Value).size=0\/j%(#[Value.int .i64 0,.int .i64 0]:Array Value).size=1)with h|h<;>rw[h]<;>rfl
 .rw[hz];simp[Builtin.zeroCells];omega
def qvk(w:World)(b e cap size:Nat)(zs:List (Int×Int))(v:Value)(w':World):Prop:=v=.slice (some ⟨b,0,none⟩) (q0j zs).length cap/\∃cur',w'.heap[b]?=some (.cells cur' e (0,0))/\cur'.size=size/\w.grownBy w' (some b)/\∀(j:Nat)p,(q0j zs)[j]?=some p->cur'[j*2]?=some (.int .i64 p.1)/\cur'[j*2+1]?=some (.int .i64 p.2)
theorem qhh:∀(zs:List (Int×Int)),(q0j zs).length<=zs.length|[]=>Nat.le_refl _|[_]=>Nat.le_refl _|x::y::r=>by rw[q1w];have:=qhh (y::r);grind
theorem Inv.out{cap:Nat}{zs:List (Int×Int)}(h1:wr.heap[b]?=some (.cells cur' e (0,0)))(h2:cur'.size=size)(h3:w.grownBy wr (some b))(hk:(q0j zs).length=k)(h4:∀(j:Nat)p,(q0j zs)[j]?=some p->cur'[j*2]?=some (.int .i64 p.1)/\cur'[j*2+1]?=some (.int .i64 p.2))(n:Nat)(hn:(k+n)*2<=cur'.size):qvk w b e cap size zs (.slice (some ⟨b,0,none⟩) k cap) (wr.setRow b (q1t cur' (k*2) (Builtin.zeroCells #[.int .i64 0,.int .i64 0] n).toList)):=by
 have hfit:k*2+(Builtin.zeroCells #[.int .i64 0,.int .i64 0] n).toList.length<=cur'.size:=by simp[Builtin.zeroCells];omega
 refine⟨by rw[hk],_,setRow_heap _ _ _ _ _ _ h1,by rw[q5g _ _ _ hfit,h2],World.grown_row _ h3,fun j p hj=>?_⟩;have hjk:j<k:=by rw[<-hk];exact(List.getElem?_eq_some_iff.1 hj).1
 rw[q3x _ _ _ hfit,q3x _ _ _ hfit,if_neg (by omega),if_neg (by omega)];grind
theorem Al.grown(h:Al w w')(b:Nat):w.grownBy w' (some b):=⟨h.os,h.tape,h.output,by rw[h.heap];omega,fun k _ _=>by rw[h.heap]⟩
set_option maxHeartbeats 4000000 in
set_option maxRecDepth 100000 in
theorem qu2(b cap:Nat)(zs:List (Int×Int))(cur:Array Value)(e:TypeId)(w:World)(hlen:zs.length<=1073741824)(hcap:zs.length<=cap)(hw:w.heap[b]?=some (.cells cur e (0,0)))(hc:∀(j:Nat)p,zs[j]?=some p->cur[j*2]?=some (.int .i64 p.1)/\cur[j*2+1]?=some (.int .i64 p.2)):Calls Tryz.prog 254 #[.slice (some ⟨b,0,none⟩) zs.length cap] w fun x w'=>∃v,x=.returned v/\qvk w b e cap cur.size zs v w':=by
 have cell:∀(wr:World),Al w wr->∀(j:Nat)p,zs[j]?=some p->wr.cell? ⟨b,j*2,none⟩=some (.int .i64 p.1)/\wr.cell? ⟨b,j*2+1,none⟩=some (.int .i64 p.2):=fun wr hal j p hj=>by
  obtain⟨h1,h2⟩:=hc j p hj;have hw':wr.heap[b]?=some (.cells cur e (0,0)):=by rw[hal.heap];exact hw
  exact⟨by rw[cell_of_row wr b _ cur e (0,0) hw'];exact h1,by rw[cell_of_row wr b _ cur e (0,0) hw'];exact h2⟩
 go_enter Tryz.func254,Tryz.ntmps254;have same:∀wr,Al w wr->q0j zs=zs->qvk w b e cap cur.size zs (.slice (some ⟨b,0,none⟩) zs.length cap) wr:=fun wr hal hid=>⟨by rw[hid],cur,by rw[hal.heap];exact hw,rfl,hal.grown b,fun j p hj=>hc j p (by rwa [hid]at hj)⟩;go_wp2;·go_ret;exact⟨_,rfl,same _ (Al.refl _) (by
   have:zs.length<2:=by omega
   match zs,this with|[],_=>rfl|[_],_=>rfl)⟩
 .go_loopw [3](fun i wr=>∃k:Nat,1<=k/\k<=zs.length/\i=.int .i64 k/\Al w wr/\∀(j:Nat)x y,j+1<k->zs[j]?=some x->zs[j+1]?=some y->x≠y)(fun i _=>zs.length-(intOf i).toNat);case atStart=>exact⟨1,by omega,by omega,rfl,Al.refl _,fun j x y hj=>by omega⟩
  case round=>
   obtain⟨k,hk1,hk,rfl,hal,hne⟩:=hrel;by_cases hlt:k<zs.length
   .obtain⟨m,rfl⟩:∃m,k=m+1:=⟨k-1,by omega⟩;obtain⟨⟨x1,x2⟩,hp⟩:∃x,zs[m+1]?=some x:=⟨zs[m+1],by simp[hlt]⟩;obtain⟨⟨y1,y2⟩,hq⟩:∃y,zs[m]?=some y:=⟨zs[m],by simp[show m<zs.length by omega]⟩;obtain⟨c0,c1⟩:=cell wr hal (m+1) _ hp;obtain⟨d0,d1⟩:=cell wr hal m _ hq;dsimp only at c0 c1 d0 d1;have i0:(0:Int)<=((m+1:Nat):Int):=by omega
    have i1:((m+1:Nat):Int)<(zs.length:Int):=by omega
    have i4:(0:Int)<=(m:Int)+1:=by omega
    have i5:(m:Int)+1<(zs.length:Int):=by omega
    have i6:m+1<zs.length:=by omega
    have i7:m<zs.length:=by omega
    have i8:RowKit.wrap64 (m:Int)=m:=by unfold RowKit.wrap64;omega
    have i9:IntKind.i64.wrap ((m:Int)+1-1)=m:=by rw[IntKind.wrap_i64];omega
    have i10:IntKind.i64.wrap (m:Int)=m:=by rw[IntKind.wrap_i64];omega
    have i11:m+1<cap:=by omega
    have i12:m+1<=cap:=by omega
    have i13:¬(m+1=cap):=by omega
    have i14:¬(cap=m+1):=by omega
    have i15:¬(cap-(m+1)=0):=by omega
    have i2:(0:Int)<=(m:Int):=by omega
    have i3:(m:Int)<(zs.length:Int):=by omega
    go_wp2;by_cases e1:x1=y1
    .subst e1;by_cases e2:x2=y2
     .subst e2;go_region_held3(fun w'=>w'.cell? ⟨b,(m+1)*2,none⟩=some (.int .i64 x1)/\w'.cell? ⟨b,(m+1)*2+1,none⟩=some (.int .i64 x2)/\w'.cell? ⟨b,m*2,none⟩=some (.int .i64 x1)/\w'.cell? ⟨b,m*2+1,none⟩=some (.int .i64 x2))(exact⟨c0,c1,d0,d1⟩)(fail);go_wp2;go_loopw [3,5](fun kv k2v wr=>∃k q:Nat,m+1+(q+1)<=zs.length/\kv=.int .i64 k/\k2v=.int .i64 ((q+1:Nat):Int)/\(q0j (zs.take (m+1+(q+1)))).length=k/\k<m+1+(q+1)/\Inv w b e cur.size zs (m+1+(q+1)) k wr)(fun _ k2v _=>zs.length-(intOf k2v).toNat);case atStart=>
       have hid:q0j (zs.take (m+1))=zs.take (m+1):=qd1 _ (fun j x y hx hy=>by
        rw[List.getElem?_take]at hx hy;split at hx
        .split at hy;·exact hne j x y (by omega) hx hy
         .cases hy
        .cases hx);have h2:q0j (zs.take (m+1+(0+1)))=zs.take (m+1):=by rw[show m+1+(0+1)=m+2 by omega,take2 zs m _ _ hq hp,if_pos rfl,hid]
       refine⟨m+1,0,by omega,by rfl,by rfl,by rw[h2];simp;omega,by omega,Inv.drew ⟨cur,by rw[hal.heap];exact hw,rfl,hal.grown b,fun j p hj=>?_,fun j p _ hj=>hc j p hj⟩⟩;rw[h2,List.getElem?_take]at hj;split at hj;·exact hc j p hj
       .cases hj
      case round=>
       clear i13 i14 i15 i8 i9 i10;obtain⟨k,q,hq2,rfl,rfl,hk',hkl,cur',hb',hs',hg',hC,hO⟩:=hrel;have cell2:∀(j:Nat)p,k<=j->zs[j]?=some p->wr.cell? ⟨b,j*2,none⟩=some (.int .i64 p.1)/\wr.cell? ⟨b,j*2+1,none⟩=some (.int .i64 p.2):=fun j p hkj hj=>by obtain⟨h1,h2⟩:=hO j p hkj hj;exact⟨by rw[cell_of_row wr b _ cur' e (0,0) hb'];exact h1,by rw[cell_of_row wr b _ cur' e (0,0) hb'];exact h2⟩
       by_cases hlt2:m+1+(q+2)<=zs.length
       .obtain⟨⟨p1,p2⟩,hp2⟩:∃x,zs[m+1+(q+1)]?=some x:=⟨zs[m+1+(q+1)],by simp[show m+1+(q+1)<zs.length by omega]⟩;obtain⟨⟨q1,q2⟩,hq3⟩:∃x,zs[m+1+q]?=some x:=⟨zs[m+1+q],by simp[show m+1+q<zs.length by omega]⟩;obtain⟨c0,c1⟩:=cell2 (m+1+(q+1)) _ (by omega) hp2;obtain⟨d0,d1⟩:=cell2 (m+1+q) _ (by omega) hq3;dsimp only at c0 c1 d0 d1;have j0:(0:Int)<=((q+1:Nat):Int):=by omega
        have j1:((q+1:Nat):Int)<((zs.length-(m+1):Nat):Int):=by omega
        have j4:(0:Int)<=(q:Int)+1:=by omega
        have j5:(q:Int)+1<((zs.length-(m+1):Nat):Int):=by omega
        have j6:q+1<zs.length-(m+1):=by omega
        have j7:q<zs.length-(m+1):=by omega
        have j8:RowKit.wrap64 (q:Int)=q:=by unfold RowKit.wrap64;omega
        have j9:IntKind.i64.wrap ((q:Int)+1-1)=q:=by rw[IntKind.wrap_i64];omega
        have j10:IntKind.i64.wrap (q:Int)=q:=by rw[IntKind.wrap_i64];omega
        have j2:(0:Int)<=(q:Int):=by omega
        have j3:(q:Int)<((zs.length-(m+1):Nat):Int):=by omega
        have a0:(m+1)*2+(q+1)*2=(m+1+(q+1))*2:=by omega
        have a1:(m+1)*2+q*2=(m+1+q)*2:=by omega
        rw[<-a0]at c0 c1;rw[<-a1]at d0 d1;clear a0 a1;have k0:(0:Int)<=(k:Int):=by omega
        have k1:(k:Int)<(zs.length:Int):=by omega
        have k2:k<zs.length:=by omega
        have k3:(k+1)*2<=cur'.size:=by have:=(Array.getElem?_eq_some_iff.1 (hO (m+1+q) _ (by omega) hq3).2).1;omega
        go_wp2;by_cases e1:p1=q1
        .subst e1;by_cases e2:p2=q2
         .subst e2;go_region_held3(fun w'=>w'.cell? ⟨b,(m+1)*2+(q+1)*2,none⟩=some (.int .i64 p1)/\w'.cell? ⟨b,(m+1)*2+(q+1)*2+1,none⟩=some (.int .i64 p2)/\w'.cell? ⟨b,(m+1)*2+q*2,none⟩=some (.int .i64 p1)/\w'.cell? ⟨b,(m+1)*2+q*2+1,none⟩=some (.int .i64 p2))(exact⟨c0,c1,d0,d1⟩)(fail);go_wp2;go_roundw;case rel=>exact⟨k,q+1,hlt2,rfl,by go_num,by rw[show m+1+(q+1+1)=m+1+q+2 by omega,take2 zs (m+1+q) _ _ hq3 hp2,if_pos rfl];exact hk',by omega,Inv.drew (Inv.same (n:=m+1+q) hq3 hp2 ⟨cur',hb',hs',hg',hC,hO⟩)⟩
          case measure=>simp[intOf];omega
         .go_region_held3(fun w'=>w'.cell? ⟨b,(m+1)*2+(q+1)*2,none⟩=some (.int .i64 p1)/\w'.cell? ⟨b,(m+1)*2+(q+1)*2+1,none⟩=some (.int .i64 p2)/\w'.cell? ⟨b,(m+1)*2+q*2,none⟩=some (.int .i64 p1)/\w'.cell? ⟨b,(m+1)*2+q*2+1,none⟩=some (.int .i64 q2))(exact⟨c0,c1,d0,d1⟩)(fail);go_wp2_with(first|(refine q9o rfl _ _ _ rfl rfl rfl (qs3 (wr:=World.drew _) hb' k3 p1 p2) ?_)|go_in);(refine⟨?_,?measure⟩;(repeat apply Exists.intro);refine⟨?rel,rfl⟩);case rel=>exact⟨k+1,q+1,hlt2,by go_num,by go_num,(Inv.put (n:=m+1+q) hq3 hp2 (fun e=>e2 (by cases e;rfl)) hk' hkl hb' hs' hg' hC hO).1,by omega,Inv.drew (wr:=World.setRow _ _ _) (Inv.put (n:=m+1+q) hq3 hp2 (fun e=>e2 (by cases e;rfl)) hk' hkl hb' hs' hg' hC hO).2⟩
          case measure=>simp[intOf];omega
        .go_region_held3(fun w'=>w'.cell? ⟨b,(m+1)*2+(q+1)*2,none⟩=some (.int .i64 p1)/\w'.cell? ⟨b,(m+1)*2+(q+1)*2+1,none⟩=some (.int .i64 p2)/\w'.cell? ⟨b,(m+1)*2+q*2,none⟩=some (.int .i64 q1)/\w'.cell? ⟨b,(m+1)*2+q*2+1,none⟩=some (.int .i64 q2))(exact⟨c0,c1,d0,d1⟩)(fail);go_wp2_with(first|(refine q9o rfl _ _ _ rfl rfl rfl (qs3 (wr:=World.drew _) hb' k3 p1 p2) ?_)|go_in);(refine⟨?_,?measure⟩;(repeat apply Exists.intro);refine⟨?rel,rfl⟩);case rel=>exact⟨k+1,q+1,hlt2,by go_num,by go_num,(Inv.put (n:=m+1+q) hq3 hp2 (fun e=>e1 (by cases e;rfl)) hk' hkl hb' hs' hg' hC hO).1,by omega,Inv.drew (wr:=World.setRow _ _ _) (Inv.put (n:=m+1+q) hq3 hp2 (fun e=>e1 (by cases e;rfl)) hk' hkl hb' hs' hg' hC hO).2⟩
         case measure=>simp[intOf];omega
       .have hqe:m+1+(q+1)=zs.length:=by omega
        have k4:k<zs.length:=by omega
        have k5:0<zs.length-k:=by omega
        have k6:(k+(zs.length-k))*2<=cur'.size:=by obtain⟨p,hp'⟩:∃x,zs[zs.length-1]?=some x:=⟨zs[zs.length-1],by simp[show zs.length-1<zs.length by omega]⟩;have:=(Array.getElem?_eq_some_iff.1 (hO (zs.length-1) p (by omega) hp').2).1;omega
        rw[hqe,List.take_length]at hk' hC;go_wp2_with(first|(refine qi1 rfl _ _ rfl rfl (y2z hb' k5 k6) ?_)|go_in);go_ret;exact⟨_,rfl,Inv.out hb' hs' hg' hk' hC _ k6⟩
     .go_region_held3(fun w'=>w'.cell? ⟨b,(m+1)*2,none⟩=some (.int .i64 x1)/\w'.cell? ⟨b,(m+1)*2+1,none⟩=some (.int .i64 x2)/\w'.cell? ⟨b,m*2,none⟩=some (.int .i64 x1)/\w'.cell? ⟨b,m*2+1,none⟩=some (.int .i64 y2))(exact⟨c0,c1,d0,d1⟩)(fail);go_wp2;go_roundw;case rel=>exact⟨m+2,by omega,by omega,by go_num,hal.drew,fun j x y hj hx hy=>by
       by_cases hjm:j=m;·subst hjm;rw[hq]at hx;rw[hp]at hy;cases hx;cases hy;simp;omega
       .exact hne j x y (by omega) hx hy⟩
      case measure=>simp[intOf];omega
    .go_region_held3(fun w'=>w'.cell? ⟨b,(m+1)*2,none⟩=some (.int .i64 x1)/\w'.cell? ⟨b,(m+1)*2+1,none⟩=some (.int .i64 x2)/\w'.cell? ⟨b,m*2,none⟩=some (.int .i64 y1)/\w'.cell? ⟨b,m*2+1,none⟩=some (.int .i64 y2))(exact⟨c0,c1,d0,d1⟩)(fail);go_wp2;go_roundw;case rel=>exact⟨m+2,by omega,by omega,by go_num,hal.drew,fun j x y hj hx hy=>by
      by_cases hjm:j=m;·subst hjm;rw[hq]at hx;rw[hp]at hy;cases hx;cases hy;simp;omega
      .exact hne j x y (by omega) hx hy⟩
     case measure=>simp[intOf];omega
   .go_wp2;go_ret;exact⟨_,rfl,same _ hal (qd1 _ (fun j x y hx hy=>hne j x y (by have:=(List.getElem?_eq_some_iff.1 hy).1;omega) hx hy))⟩
set_option maxRecDepth 100000 in
theorem qqg(a:Option Addr)(cap:Nat)(w:World):Calls Tryz.prog 254 #[.slice a 0 cap] w fun e w'=>e=.returned (.slice a 0 cap)/\w'=w:=by go_enter Tryz.func254,Tryz.ntmps254;go_wp2;go_ret;exact⟨rfl,rfl⟩
abbrev pairD(p:Int×Int):D:=.agg [.v (.int .i64 p.1),.v (.int .i64 p.2)]
theorem qn7:∀(xs:List D),xs.all flatD=true->xs.all (q5q 2)=true->∃zs:List (Int×Int),xs=zs.map pairD|[],_,_=>⟨[],rfl⟩|x::r,h1,h2=>by simp only[List.all_cons,aT]at h1 h2;obtain⟨zs,rfl⟩:=qn7 r h1.2 h2.2;obtain⟨h,_⟩:=q65 h2.1;have h1:=h1.1;cases x with|v y=>simp[D.cells]at h|list l=>simp[D.cells]at h|agg cs=>match cs,h,h1 with
   |[a,c],_,h1=>
    simp only[flatD,List.all_cons,List.all_nil,Bool.and_true,aT]at h1;obtain⟨ha,hc⟩:=h1;split at ha
    .split at hc;·exact⟨(_,_)::zs,rfl⟩
     .cases hc
    simp_all
theorem qiw{xs:List D}{X:Cx}{args:Array Value}(hH:HRel env X [[.own xs false]] w)(hA:RVl w X (.res 0) (.ref 0) (args.getD 0 undef)):X.mu[0]?=some (.head (args.getD 0 undef))/\OwnOk w X (.cell 0 0) xs false (args.getD 0 undef):=by
 obtain⟨h1,_⟩:=hA;refine⟨h1,?_⟩;rcases hH.heap 0 _ rfl with⟨b,cur,e,hb,_⟩|⟨v,c,hv,hc,hr⟩;·simp_all
 .rw[h1]at hv;cases hv;cases hc;exact hr
theorem qv9:LibOk env 254 (q6g 2):=by
 intro vs hp v hp' hm X w args hH hA;unfold q6g at hm;split at hm
 .rename_i xs;split at hm
  .rename_i hcnd;obtain⟨hflat,hcell,hlen⟩:=hcnd;simp only[sI,pI]at hm;obtain⟨rfl,rfl⟩:=hm;obtain⟨zs,rfl⟩:=qn7 xs hflat hcell;obtain⟨ha,hr⟩:=qt5 hA;obtain⟨hmu,hown⟩:=qiw hH hr;rw[ha];generalize args.getD 0 undef=u at hmu hown;rcases hown with⟨h0,a,rfl⟩|⟨h0,_⟩|⟨b,cap,cur,e,sz,rfl,hg,hw,hs,hz,hne,hsz,hcap,hmax,hcells⟩
   .have:zs=[]:=by simpa using h0
    subst this;refine(qqg a 0 w).mono ?_;rintro e w1⟨rfl,rfl⟩;exact⟨_,rfl,ql6 hH hmu (row:=none) ⟨rfl,rfl,rfl,Nat.le_refl _,fun _ _ _=>rfl⟩ (fun g e=>by cases e) (.empty a 0)⟩
   .cases h0
   .have hsz2:sz=2:=by obtain⟨x,hx⟩:=List.exists_mem_of_ne_nil _ hne;obtain⟨p,_,rfl⟩:=List.mem_map.1 hx;rw[<-hs _ hx];rfl
    subst hsz2;rw[List.length_map]at*;simp only[fT,if_false]at hg;refine(qu2 b cap zs cur e w (by unfold q07 at hlen;exact hlen) hcap hw (fun j p hj=>?_)).mono ?_
    .have hj':(zs.map pairD)[j]?=some (pairD p):=by rw[List.getElem?_map,hj];rfl
     obtain⟨u0,k0,r0⟩:=hcells j _ hj' 0 _ rfl;obtain⟨u1,k1,r1⟩:=hcells j _ hj' 1 _ rfl;rw[q0y r0]at k0;rw[q0y r1]at k1;exact⟨k0,k1⟩
    .rintro e1 w1⟨val,rfl,hv,cur',hb',hs',hgr,hC⟩;refine⟨val,rfl,?_⟩;have hmap:q0j (zs.map pairD)=(q0j zs).map pairD:=qaf (fun a c h=>by cases a;cases c;simp[pairD]at h;simp[h]) zs;rw[hmap,hv];refine ql6 hH hmu (row:=some b) hgr (fun g e=>by cases e;exact⟨_,hg⟩) ?_;rw[show(q0j zs).length=((q0j zs).map pairD).length by simp];have himm:∀o,(X.strike (some b)).imm b o:=fun o=>⟨hH.oamb b _ _ hg o,fun l k e=>by simp[Cx.strike]at e⟩;refine .list _ b 0 cap 2 (fun i j=>cur'.getD (i*2+j) undef) (fun x hx=>by obtain⟨p,_,rfl⟩:=List.mem_map.1 hx;rfl) (by have:=qhh zs;simp;omega) (fun i x hx j c hj=>⟨?_,himm _⟩) (fun i x hx j c hj=>?_)
     .rw[List.getElem?_map,Option.map_eq_some_iff]at hx;obtain⟨p,hp,rfl⟩:=hx;obtain⟨c0,c1⟩:=hC i p hp;rw[Nat.zero_add,cell_of_row w1 b _ cur' e (0,0) hb'];have hj2:j<2:=(List.getElem?_eq_some_iff.1 hj).1;rcases(by omega:j=0\/j=1)with rfl|rfl;·show cur'[i*2]?=some (cur'.getD (i*2) undef);rw[Array.getD_eq_getD_getElem?,c0];rfl
      .rw[Array.getD_eq_getD_getElem?,c1];rfl
     .rw[List.getElem?_map,Option.map_eq_some_iff]at hx;obtain⟨p,hp,rfl⟩:=hx;obtain⟨c0,c1⟩:=hC i p hp;have hj2:j<2:=(List.getElem?_eq_some_iff.1 hj).1;rcases(by omega:j=0\/j=1)with rfl|rfl;·simp[D.cells]at hj;subst hj;show Rep w1 _ _ (cur'.getD (i*2+0) undef);rw[Array.getD_eq_getD_getElem?,show i*2+0=i*2 from rfl,c0];exact .v _ rfl
      .simp[D.cells]at hj;subst hj;show Rep w1 _ _ (cur'.getD (i*2+1) undef);rw[Array.getD_eq_getD_getElem?,c1];exact .v _ rfl
  .cases hm
 simp_all
end Go.Proofs.YtdmfjabikomgiaaGreat
namespace Go.Proofs.YtdmfjabikomgiaaGreat
open Go Go.Ab Go.RowKit Go.Lib
variable {cur : Array Value} {cs row vs : List Value} {cap i n sz : Nat} {w w' : World} {ds xs : List D} {X : Cx}
abbrev zMsg:Value:=.agg #[.int .i64 0,.int .i64 0,.int .i64 0,.slice none 0 0,.slice none 0 0,.slice none 0 0,.slice none 0 0]
set_option maxRecDepth 100000 in
theorem y4i:∃i,Tryz.prog.info? 68=some i/\i.zero=some zMsg/\i.size=7/\i.bytes=120:=⟨_,rfl,rfl,rfl,rfl⟩
set_option maxHeartbeats 4000000 in
set_option maxRecDepth 100000 in
theorem qr8(b n cap i vb vo vc:Nat)(cs vs:List Value)(cur:Array Value)(e1:TypeId)(w:World)(hi:i<n)(hroom:n+1<=cap)(hn:n<=1073741824)(hc63:cap<=9223372036854775807)(hvb:vb≠b)(hw:w.heap[b]?=some (.cells cur e1 (0,0)))(hsz:cur.size=cap*7)(hcl:cs.length=n*7)(hvl:vs.length=7)(hcs:∀(k:Nat)u,cs[k]?=some u->cur[k]?=some u)(hvs:∀(k:Nat)u,vs[k]?=some u->w.cell? ⟨vb,vo+k,none⟩=some u)(h1c:∀u∈cs,u.oneCell'=true)(h1v:∀u∈vs,u.oneCell'=true):Calls Tryz.prog 207 #[.slice (some ⟨b,0,none⟩) n cap,.int .i64 i,.slice (some ⟨vb,vo,none⟩) 1 vc] w fun e w'=>e=.returned (.slice (some ⟨b,0,none⟩) (n+1) cap)/\w'=(w.drew.setRow b (q1t cur ((i+1)*7) (cs.drop (i*7)))).setRow b (q1t (q1t cur ((i+1)*7) (cs.drop (i*7))) (i*7) vs):=by
 obtain⟨i0,hi0,hz0,hzs,hzb⟩:=y4i;have hz2:¬((i:Int)=(n:Int)):=by omega
 have hcell:w.cell? ⟨vb,vo,none⟩=some vs[0]:=hvs 0 _ (by simp[hvl]);obtain⟨cA,tA,fA,hA,hA0⟩:∃cA tA f,w.heap[vb]?=some (.cells cA tA f)/\cA.size≠0:=by
  unfold World.cell? at hcell;split at hcell;·rename_i cA tA f hq;refine⟨cA,tA,f,hq,fun h=>?_⟩;simp[h]at hcell
  all_goals cases hcell
 have hov:∀lb cb,(callFunc 231 #[.slice (some ⟨vb,vo,none⟩) 1 vc,.slice (some ⟨b,(i+1)*7,none⟩) lb cb]).run Tryz.prog w=.ok (.value (.bool false)) w:=fun lb cb=>by rw[run_callFunc_extern Tryz.func231 (by kernel_rfl) (by kernel_rfl) (by kernel_rfl) (e:=Extern.SlicesOverlaps.overlaps #[57,57] #[4]) (by kernel_rfl),qlk w 57 4 68 Tryz.underlying57 hi0 ⟨vb,vo,none⟩ ⟨b,(i+1)*7,none⟩ 1 vc lb cb hvb hA hw (by omega) hA0];rfl
 have hdl:(cs.drop (i*7)).length=(n-i)*7:=by rw[List.length_drop,hcl,Nat.sub_mul]
 have hfit1:(i+1)*7+(cs.drop (i*7)).length<=cur.size:=by rw[hdl,hsz];omega
 have hcp1:∀ty dc sc,(Builtin.copy_ #[57,57] ty #[.slice (some ⟨b,(i+1)*7,none⟩) (n-i) dc,.slice (some ⟨b,i*7,none⟩) (n+1-i) sc]).run Tryz.prog w.drew=.ok (goInt ((n-i:Nat):Int)) (w.drew.setRow b (q1t cur ((i+1)*7) (cs.drop (i*7)))):=fun ty dc sc=>q9j (w:=w.drew) Tryz.underlying57 hi0 hw ⟨b,i*7,none⟩ (cs.drop (i*7)) (by omega) (by rw[hdl,hzs]) (fun j u hj=>by rw[List.getElem?_drop]at hj;rw[q3h];exact(cell_of_row w b _ cur e1 (0,0) hw).trans (hcs _ u hj)) (fun u hu=>h1c u (List.mem_of_mem_drop hu)) hfit1;have hfit2:i*7+vs.length<=(q1t cur ((i+1)*7) (cs.drop (i*7))).size:=by rw[q5g _ _ _ hfit1,hvl,hsz];omega
 have hcp2:∀ty dc,(Builtin.copy_ #[57,57] ty #[.slice (some ⟨b,i*7,none⟩) (n+1-i) dc,.slice (some ⟨vb,vo,none⟩) 1 vc]).run Tryz.prog (w.drew.setRow b (q1t cur ((i+1)*7) (cs.drop (i*7))))=.ok (goInt ((1:Nat):Int)) ((w.drew.setRow b (q1t cur ((i+1)*7) (cs.drop (i*7)))).setRow b (q1t (q1t cur ((i+1)*7) (cs.drop (i*7))) (i*7) vs)):=fun ty dc=>q9j (w:=w.drew.setRow b (q1t cur ((i+1)*7) (cs.drop (i*7)))) Tryz.underlying57 hi0 (setRow_heap _ _ _ _ _ _ hw) ⟨vb,vo,none⟩ vs (by omega) (by rw[hvl,hzs]) (fun j u hj=>by rw[q3h];exact(cell?_of_heap (setRow_other _ b vb _ hvb) _).trans (hvs j u hj)) h1v hfit2;have hw1:IntKind.i64.wrap ((i:Int)+1)=(i:Int)+1:=by rw[IntKind.wrap_i64];omega
 have hwn:IntKind.i64.wrap ((n:Int)+1)=(n:Int)+1:=by rw[IntKind.wrap_i64];omega
 have hb1:(0:Int)<=(i:Int)+1:=by omega
 have hin:i<=n:=by omega
 have htn:((i:Int)+1).toNat=i+1:=by omega
 have htn2:((n:Int)+1).toNat=n+1:=by omega
 have hb2:¬(cap=i+1):=by omega
 have hb3:(i:Int)<=(n:Int)+1:=by omega
 have hb4:¬(cap=i):=by omega
 have mixed:Tryz.prog.follows .mixedOrders=true:=by kernel_rfl
 go_enter Tryz.func207,Tryz.ntmps207;go_wp2_with(simp only[hov]);go_region_law_o(refine step_copy_eq rfl _ _ 57 57 rfl _ _ (by simp[Act.eval,Act.put]) (by simp[Act.eval,Act.put]) (hcp1 _ _ _) ?_);go_wp2_with(at_builtin;refine wpList_copy_eq rfl _ _ 57 57 rfl _ _ rfl rfl (hcp2 _ _) ?_);go_ret;exact⟨rfl,rfl⟩
def InsOut(w:World)(row:Option Nat)(n:Nat)(new:List Value)(v:Value)(w':World):Prop:=∃g cap' cur' e',v=.slice (some ⟨g,0,none⟩) (n+1) cap'/\n+1<=cap'/\w'.heap[g]?=some (.cells cur' e' (0,0))/\(∀(k:Nat)u,new[k]?=some u->cur'[k]?=some u)/\w.grownBy w' row/\(row=some g\/w.heap.size<=g)
theorem y59(hi:i<n)(hroom:n+1<=cap)(hsz:cur.size=cap*7)(hcl:cs.length=n*7)(hvl:vs.length=7)(hcs:∀(k:Nat)u,cs[k]?=some u->cur[k]?=some u)(k:Nat)(u:Value)(h:(cs.take (i*7)++vs++cs.drop (i*7))[k]?=some u):(q1t (q1t cur ((i+1)*7) (cs.drop (i*7))) (i*7) vs)[k]?=some u:=by
 have hdl:(cs.drop (i*7)).length=(n-i)*7:=by rw[List.length_drop,hcl,Nat.sub_mul]
 have hfit1:(i+1)*7+(cs.drop (i*7)).length<=cur.size:=by rw[hdl,hsz];omega
 rw[q3x _ _ _ (by rw[q5g _ _ _ hfit1,hvl,hsz];omega),q3x _ _ _ hfit1];grind
theorem y7p(hi:i<n)(hsz:(n+1)*7<=cur.size)(hcl:cs.length=n*7)(hvl:vs.length=7)(hcs:∀(k:Nat)u,k<i*7->cs[k]?=some u->cur[k]?=some u)(k:Nat)(u:Value)(h:(cs.take (i*7)++vs++cs.drop (i*7))[k]?=some u):(q1t (q1t cur (i*7) vs) ((i+1)*7) (cs.drop (i*7)))[k]?=some u:=by
 have hdl:(cs.drop (i*7)).length=(n-i)*7:=by rw[List.length_drop,hcl,Nat.sub_mul]
 have hfit1:i*7+vs.length<=cur.size:=by rw[hvl];omega
 rw[q3x _ _ _ (by rw[q5g _ _ _ hfit1,hdl];omega),q3x _ _ _ hfit1];grind
set_option maxHeartbeats 4000000 in
set_option maxRecDepth 100000 in
theorem qui(b n cap i vb vo vc:Nat)(cs vs:List Value)(cur:Array Value)(e1:TypeId)(w:World)(hi:i<n)(hnc:n<=cap)(hroom:cap<n+1)(hn:n<=1073741823)(hw:w.heap[b]?=some (.cells cur e1 (0,0)))(hcl:cs.length=n*7)(hvl:vs.length=7)(hcs:∀(k:Nat)u,cs[k]?=some u->cur[k]?=some u)(hvs:∀(k:Nat)u,vs[k]?=some u->w.cell? ⟨vb,vo+k,none⟩=some u)(h1c:∀u∈cs,u.oneCell'=true)(h1v:∀u∈vs,u.oneCell'=true):Calls Tryz.prog 207 #[.slice (some ⟨b,0,none⟩) n cap,.int .i64 i,.slice (some ⟨vb,vo,none⟩) 1 vc] w fun e w'=>∃v,e=.returned v/\InsOut w none n (cs.take (i*7)++vs++cs.drop (i*7)) v w':=by
 obtain⟨i0,hi0,hz0,hzs,hzb⟩:=y4i;have hz2:¬((i:Int)=(n:Int)):=by omega
 have hbw:b<w.heap.size:=(Array.getElem?_eq_some_iff.1 hw).1;have hvw:vb<w.heap.size:=World.block_lt_of_cell? w ⟨vb,vo,none⟩ (hvs 0 vs[0] (by simp[hvl]));have hold:(Builtin.firstCells i0.size i (.slice (some ⟨b,0,none⟩) i cap)).run Tryz.prog w.drew=.ok (cs.take (i*7)).toArray w.drew:=by rw[hzs];exact run_firstCells_some w.drew 7 i ⟨b,0,none⟩ i cap (cs.take (i*7)) (by rw[List.length_take];omega) (fun j v hj=>by
   rw[q3h,Nat.zero_add];rw[List.getElem?_take]at hj;split at hj;·exact(cell_of_row w b _ cur e1 (0,0) hw).trans (hcs j v hj)
   .cases hj)
 have hkk:(n:Int)+1-(i:Int)=((n+1-i:Nat):Int):=by omega
 have hik:i+(n+1-i)=n+1:=by omega
 obtain⟨G,hG⟩:∃G,G=grownCap w (n+1) cap 68:=⟨_,rfl⟩;obtain⟨ROW,hROW⟩:∃ROW:Array Value,ROW=(cs.take (i*7)).toArray++Builtin.zeroCells zMsg.cells (n+1-i)++Builtin.zeroCells zMsg.cells (G-(n+1)):=⟨_,rfl⟩;have hrz:∀ty,(Builtin.append_ #[57,3] ty #[.slice (some ⟨b,0,none⟩) i cap,.int .i64 ((n:Int)+1-(i:Int))]).run Tryz.prog w=.ok (.slice (some ⟨w.heap.size,0,none⟩) (n+1) G) (w.drew.alloc (.cells ROW 68)):=fun ty=>by have h:=Lib.run_append_grow_zeros (P:=Tryz.prog) w 57 3 ty 68 i0 _ .i64 .i64 Tryz.underlying57 Tryz.underlying3 hi0 hz0 (some ⟨b,0,none⟩) i cap (cs.take (i*7)) hold (n+1-i) (by omega) (by omega) (by omega) (by omega) (by rw[hzb];omega) (by rw[hzb,hik];exact growslice_fits hroom (by omega));rw[hik]at h;rw[hkk,hROW,hG];exact h
 have hzl:∀k,(Builtin.zeroCells zMsg.cells k).size=k*7:=fun k=>by simp[Builtin.zeroCells,Value.cells]
 have hRl:(n+1)*7<=ROW.size:=by rw[hROW,Array.size_append,Array.size_append,hzl,hzl];simp;omega
 have hRc:∀(k:Nat)u,k<i*7->cs[k]?=some u->ROW[k]?=some u:=fun k u hk hu=>by have:=(List.getElem?_eq_some_iff.1 hu).1;rw[hROW,Array.append_assoc,Array.getElem?_append_left (by simp;omega)];simp[hk,hu]
 obtain⟨W1,hW1⟩:∃W1,W1=w.drew.alloc (.cells ROW 68):=⟨_,rfl⟩;rw[<-hW1]at hrz;have hN:W1.heap[w.heap.size]?=some (.cells ROW 68 (0,0)):=by rw[hW1];exact heap_alloc_new w.drew _
 have hO:∀k,k<w.heap.size->W1.heap[k]?=w.heap[k]?:=fun k hk=>by rw[hW1];exact heap_alloc_old w.drew _ hk
 have hGn:n+1<=G:=by rw[hG];exact grownCap_ge w _ _ _
 have hG63:G<=9223372036854775807:=by have:=grownCap_le_maxLen w (n+1) cap 68 (by unfold maxLen;omega);rw[<-hG]at this;unfold maxLen at this;omega
 have hfit1:i*7+vs.length<=ROW.size:=by rw[hvl];omega
 have hcpA:∀(W:World),(∀k:Nat,W.heap[k]?=W1.heap[k]?)->∀ty dc,(Builtin.copy_ #[57,57] ty #[.slice (some ⟨w.heap.size,i*7,none⟩) (n+1-i) dc,.slice (some ⟨vb,vo,none⟩) 1 vc]).run Tryz.prog W=.ok (goInt ((1:Nat):Int)) (W.setRow w.heap.size (q1t ROW (i*7) vs)):=fun W hW ty dc=>q9j (w:=W) Tryz.underlying57 hi0 ((hW _).trans hN) ⟨vb,vo,none⟩ vs (by omega) (by rw[hvl,hzs]) (fun j u hj=>by rw[q3h];exact(cell?_of_heap ((hW vb).trans (hO vb hvw)) _).trans (hvs j u hj)) h1v hfit1;have hdl:(cs.drop (i*7)).length=(n-i)*7:=by rw[List.length_drop,hcl,Nat.sub_mul]
 have hfit2:(i+1)*7+(cs.drop (i*7)).length<=(q1t ROW (i*7) vs).size:=by rw[q5g _ _ _ hfit1,hdl];omega
 have hcpB:∀(W:World),W.heap[w.heap.size]?=some (.cells (q1t ROW (i*7) vs) 68 (0,0))->W.heap[b]?=w.heap[b]?->∀ty dc sc,(Builtin.copy_ #[57,57] ty #[.slice (some ⟨w.heap.size,(i+1)*7,none⟩) (n-i) dc,.slice (some ⟨b,i*7,none⟩) (n-i) sc]).run Tryz.prog W=.ok (goInt ((n-i:Nat):Int)) (W.setRow w.heap.size (q1t (q1t ROW (i*7) vs) ((i+1)*7) (cs.drop (i*7)))):=fun W hW hWb ty dc sc=>q9j (w:=W) Tryz.underlying57 hi0 hW ⟨b,i*7,none⟩ (cs.drop (i*7)) (by omega) (by rw[hdl,hzs]) (fun j u hj=>by rw[List.getElem?_drop]at hj;rw[q3h];exact(cell_of_row W b _ cur e1 (0,0) (hWb.trans hw)).trans (hcs _ u hj)) (fun u hu=>h1c u (List.mem_of_mem_drop hu)) hfit2;have hGi:¬(G=i):=by omega
 have hGim:¬(G=i+1):=by omega
 have hci:¬(cap=i):=by omega
 have hw1:IntKind.i64.wrap ((i:Int)+1)=(i:Int)+1:=by rw[IntKind.wrap_i64];omega
 have hwn:IntKind.i64.wrap ((n:Int)+1)=(n:Int)+1:=by rw[IntKind.wrap_i64];omega
 have hwd:IntKind.i64.wrap ((n:Int)+1-(i:Int))=(n:Int)+1-(i:Int):=by rw[IntKind.wrap_i64];omega
 have hz3:(cap:Int)<(n:Int)+1:=by omega
 have hb1:(0:Int)<=(i:Int)+1:=by omega
 have hin:i<=n:=by omega
 have htn:((i:Int)+1).toNat=i+1:=by omega
 have hb3:(i:Int)<=(n:Int):=by omega
 have mixed:Tryz.prog.follows .mixedOrders=true:=by kernel_rfl
 have fin:∀(W:World),(∀k,W.heap[k]?=((W1.setRow w.heap.size (q1t ROW (i*7) vs)).setRow w.heap.size (q1t (q1t ROW (i*7) vs) ((i+1)*7) (cs.drop (i*7)))).heap[k]?)->W.os=w.os->W.tape=w.tape->W.output=w.output->InsOut w none n (cs.take (i*7)++vs++cs.drop (i*7)) (.slice (some ⟨w.heap.size,0,none⟩) (n+1) G) W:=fun W h1 h2 h3 h4=>⟨w.heap.size,G,_,68,rfl,hGn,(h1 _).trans (setRow_heap _ _ _ _ _ _ (setRow_heap _ _ _ _ _ _ hN)),y7p hi hRl hcl hvl hRc,⟨h2,h3,h4,by have:=(Array.getElem?_eq_some_iff.1 ((h1 w.heap.size).trans (setRow_heap _ _ _ _ _ _ (setRow_heap _ _ _ _ _ _ hN)))).1;omega,fun k hk _=>(h1 k).trans ((setRow_other _ _ _ _ (by omega)).trans ((setRow_other _ _ _ _ (by omega)).trans (hO k hk)))⟩,.inr (Nat.le_refl _)⟩;have hS:∀(W:World),(∀k:Nat,W.heap[k]?=(W1.setRow w.heap.size (q1t ROW (i*7) vs)).heap[k]?)->W.heap[w.heap.size]?=some (.cells (q1t ROW (i*7) vs) 68 (0,0))/\W.heap[b]?=w.heap[b]?:=fun W h=>⟨(h _).trans (setRow_heap _ _ _ _ _ _ hN),(h _).trans ((setRow_other _ _ _ _ (by omega)).trans (hO b hbw))⟩;clear hkk hik hold hROW hG hRl hRc hzl hvs hcs;subst hW1;have hE:∀k:Nat,((w.alloc (.cells ROW 68)).drew).heap[k]?=(w.drew.alloc (.cells ROW 68)).heap[k]?:=fun _=>rfl;have hF:∀k:Nat,(((w.alloc (.cells ROW 68)).drew.setRow w.heap.size (q1t ROW (i*7) vs)).drew).heap[k]?=((w.drew.alloc (.cells ROW 68)).setRow w.heap.size (q1t ROW (i*7) vs)).heap[k]?:=fun _=>rfl;have hcpC:=hcpB _ (hS _ hF).1 (hS _ hF).2;go_enter Tryz.func207,Tryz.ntmps207;go_wp2_with(first|(at_builtin;refine Lib.wpList_append_run _ rfl _ _ _ _ rfl _ _ rfl rfl _ _ (hrz _) ?_)|(at_builtin;refine wpList_copy_eq rfl _ _ 57 57 rfl _ _ rfl rfl (hcpA _ hE _ _) ?_));go_region_law_o(refine step_copy_eq rfl _ _ 57 57 rfl _ _ (by simp[Act.eval,Act.put]) (by simp[Act.eval,Act.put]) (hcpC _ _ _) ?_);go_wp2;go_ret;exact⟨_,rfl,fin _ (fun _=>rfl) rfl rfl rfl⟩
set_option maxRecDepth 100000 in
theorem qc1(a:Option Addr)(n cap vc:Nat)(ad:Addr)(hnc:n<=cap)(hn:n<=1073741824)(h0:a=none->cap=0)(w:World){v':Value}(hr:∀ty,(Builtin.append_ #[57,57] ty #[.slice a n cap,.slice (some ad) 1 vc]).run Tryz.prog w=.ok v' w'):Calls Tryz.prog 207 #[.slice a n cap,.int .i64 n,.slice (some ad) 1 vc] w fun e w1=>e=.returned v'/\w1=w':=by
 have hsl:∀c,(n:Int)<=(n:Int):=fun _=>by omega
 cases a with|none=>
  have:cap=0:=h0 rfl;subst this;have:n=0:=by omega
  subst this;go_enter Tryz.func207,Tryz.ntmps207;go_wp2_with(at_builtin;refine Lib.wpList_append_run _ rfl _ _ _ _ rfl _ _ rfl rfl _ _ (hr _) ?_);go_ret;exact⟨rfl,rfl⟩|some b=>go_enter Tryz.func207,Tryz.ntmps207;go_wp2_with(at_builtin;refine Lib.wpList_append_run _ rfl _ _ _ _ rfl _ _ rfl rfl _ _ (hr _) ?_);all_goals(go_ret;exact⟨rfl,rfl⟩)
theorem RowRep.take{I:Nat->Nat->Prop}(h:RowRep w I sz ds row)(n:Nat):RowRep w I sz (ds.take n) (row.take (n*sz)):=by
 obtain⟨h1,h2,h3⟩:=h;refine⟨?_,fun x hx=>h2 x (List.mem_of_mem_take hx),fun i x hx j c hj=>?_⟩;·simp_all
 .rw[List.getElem?_take]at hx;split at hx
  .rename_i hin;obtain⟨u,hu,hr⟩:=h3 i x hx j c hj;have hj2:j<sz:=by rw[<-h2 x (List.mem_of_getElem? hx)];exact(List.getElem?_eq_some_iff.1 hj).1
   have:(i+1)*sz<=n*sz:=Nat.mul_le_mul_right _ hin;rw[Nat.add_mul]at this;exact⟨u,by rw[List.getElem?_take,if_pos (by omega)];exact hu,hr⟩
  simp_all
theorem RowRep.drop{I:Nat->Nat->Prop}(h:RowRep w I sz ds row)(n:Nat):RowRep w I sz (ds.drop n) (row.drop (n*sz)):=by obtain⟨h1,h2,h3⟩:=h;refine⟨by rw[List.length_drop,List.length_drop,h1,Nat.sub_mul],fun x hx=>h2 x (List.mem_of_mem_drop hx),fun i x hx j c hj=>?_⟩;grind
theorem y4d{a b c:AV}{args:Array Value}(h:Ab.ArgRel w X [a,b,c] args):args=#[args.getD 0 undef,args.getD 1 undef,args.getD 2 undef]/\RVl w X (.res 0) a (args.getD 0 undef)/\RVl w X (.res 1) b (args.getD 1 undef)/\RVl w X (.res 2) c (args.getD 2 undef):=by
 refine⟨?_,(h.2 0 a rfl).2,(h.2 1 b rfl).2,(h.2 2 c rfl).2⟩;apply Array.ext;·exact h.1
 .intro i h1 h2;have h3:i<3:=by omega
  rcases(by omega:i=0\/i=1\/i=2)with rfl|rfl|rfl<;>simp[Array.getD_eq_getD_getElem?,h1]
theorem ycp{I:Nat->Nat->Prop}{x:D}{b o c:Nat}(h:Rep w I (.list [x]) (.slice (some ⟨b,o,none⟩) 1 c))(hx:0<x.cells.length):I b o:=by generalize hv:Value.slice (some ⟨b,o,none⟩) 1 c=v at h;cases h with|list _ b off cap sz V hs hc hh hr=>cases hv;have:=(hh 0 x rfl 0 x.cells[0] (by simp[hx])).2;simp_all
theorem yc6(hs:∀x∈xs,x.cells.length=7)(hna:∀x∈xs,∀c∈x.cells,c.isAgg=false)(hsz:cur.size=cap*7)(hcap:xs.length<=cap)(hcells:∀(i:Nat)x,xs[i]?=some x->∀(j:Nat)c,x.cells[j]?=some c->∃u,cur[i*7+j]?=some u/\Rep w X.imm c u):RowRep w X.imm 7 xs (cur.toList.take (xs.length*7))/\∀u∈cur.toList.take (xs.length*7),u.oneCell'=true:=by
 have hrow:RowRep w X.imm 7 xs (cur.toList.take (xs.length*7)):=by refine⟨by simp[hsz];omega,hs,fun i x hx j c hj=>?_⟩;grind
 refine⟨hrow,fun u hu=>?_⟩;obtain⟨k,hk,rfl⟩:=List.mem_iff_getElem.1 hu;have hk2:k<xs.length*7:=by grind
 have hx:xs[k/7]?=some (xs[k/7]'(by omega)):=by simp
 have hxl:=hs _ (List.mem_of_getElem? hx);have hc:(xs[k/7]'(by omega)).cells[k%7]?=some ((xs[k/7]'(by omega)).cells[k%7]'(by omega)):=by simp
 obtain⟨u,hu,hr⟩:=hrow.2.2 _ _ hx _ _ hc;rw[show k/7*7+k%7=k by omega,List.getElem?_eq_getElem hk]at hu;cases hu;exact y5i (hna _ (List.mem_of_getElem? hx) _ (List.mem_of_getElem? hc)) hr
theorem InsOut.fin{u v:Value}{row:Option Nat}{new:List Value}(hH:HRel env X [[.own xs false]] w)(hmu:X.mu[0]?=some (.head u))(h:InsOut w row n new v w')(hrow:∀g,row=some g->∃l,X.G g=some (l,0))(hn:ds.length=n+1)(hr:RowRep w X.imm 7 ds new):∃X1,(∃more,X1.mu=X.mu++more)/\Ext X w X1 w'/\HRel env X1 [[.undef]] w'/\ResRel w' X1 (.d (.list ds)) v:=by
 obtain⟨g,cap',cur',e',rfl,hc,hg,hnew,hgr,hor⟩:=h;refine ql6 hH hmu hgr hrow ?_;have hr':=RowRep.mono (w':=w') (I':=(X.strike row).imm) (fun b o u h1 h2=>qqx hgr hrow h1 h2) hr;rw[<-hn];refine RowRep.rep hr' (fun k u hu=>⟨?_,?_,fun l k' e=>?_⟩) (by omega);·rw[Nat.zero_add];exact(cell_of_row w' g _ cur' e' (0,0) hg).trans (hnew k u hu)
 .rcases hor with h|h;·obtain⟨l,hl⟩:=hrow g h;exact hH.oamb g l 0 hl _
  .exact hH.amb g _ h
 .simp only[Cx.strike]at e;split at e;·cases e
  .rename_i hne;rcases hor with h|h;·simp_all
   .have:=hH.gdom g l k' e;omega
theorem qzo:LibOk env 207 (q7y 7):=by
 intro vs hp v hp' hm X w args hH hA;unfold q7y at hm;split at hm
 .rename_i i x xs;split at hm
  .rename_i hcnd;obtain⟨hi0,hin,hlen,hx,hxs⟩:=hcnd;simp only[sI,pI]at hm;obtain⟨rfl,rfl⟩:=hm;obtain⟨ha,hr0,hr1,hr2⟩:=y4d hA;obtain⟨hmu,hown⟩:=qiw hH hr0;have hr1':Rep w X.imm (.v (.int .i64 i)) (args.getD 1 undef):=hr1;have hr2':Rep w X.imm (.list [x]) (args.getD 2 undef):=hr2;rw[ha,q0y hr1'];generalize args.getD 0 undef=u0 at hmu hown;generalize args.getD 2 undef=u2 at hr2';obtain⟨n,rfl⟩:∃n:Nat,i=n:=⟨i.toNat,by omega⟩;have hx7:=q65 hx;have hs7:∀y∈xs,y.cells.length=7/\∀c∈y.cells,c.isAgg=false:=fun y hy=>q65 (List.all_eq_true.1 hxs y hy);obtain⟨ad,vc,nv,rfl,hrv,h1v,hcv⟩:=qmu hr2' (fun y hy=>by simp at hy;subst hy;exact hx7) (by decide:0<7);obtain⟨vb,vo,rfl,hvs⟩:=hcv (by simp);have himm:X.imm vb vo:=ycp hr2' (by rw[hx7.1];decide);have hvl:nv.length=7:=by rw[hrv.1];rfl
   obtain⟨i0,hi0',hz0,hzs,hzb⟩:=y4i;unfold q07 at hlen;have hvs':∀(k:Nat)u,nv[k]?=some u->w.cell? ((⟨vb,vo,none⟩:Addr).add k)=some u:=fun k u h=>by rw[q3h];exact hvs k u h
   have hzl:∀k,(Builtin.zeroCells zMsg.cells k).size=k*7:=fun k=>by simp[Builtin.zeroCells,Value.cells]
   simp only[tN];rcases hown with⟨h0,a,rfl⟩|⟨h0,_⟩|⟨b,cap,cur,e,sz,rfl,hg,hw,hs,hz,hne,hsz,hcap,hmax,hcells⟩
   .subst h0;have:n=0:=by simpa using hin
    subst this;have hfin:∀(G:Nat)(Z:Array Value),1<=G->InsOut w none 0 nv (.slice (some ⟨w.heap.size,0,none⟩) 1 G) (w.drew.alloc (.cells (nv.toArray++Z) 68)):=fun G Z hG=>⟨_,G,_,68,rfl,hG,heap_alloc_new w.drew _,fun k u hu=>by rw[Array.getElem?_append_left (by simpa using(List.getElem?_eq_some_iff.1 hu).1)];simpa using hu,⟨rfl,rfl,rfl,by simp,fun k hk _=>heap_alloc_old w.drew _ hk⟩,.inr (Nat.le_refl _)⟩;cases a with|none=>refine(qc1 none 0 0 vc ⟨vb,vo,none⟩ (Nat.le_refl _) (by omega) (fun _=>rfl) w (fun ty=>run_append_nil (P:=env.P) w 57 ty 68 i0 _ Tryz.underlying57 hi0' hz0 ⟨vb,vo,none⟩ 1 vc nv (by rw[hvl,hzs]) hvs' (by omega) (by omega) (by rw[hzb];omega))).mono ?_;rintro e w1⟨rfl,rfl⟩;exact⟨_,rfl,InsOut.fin hH hmu (hfin _ _ (grownCap_ge w 1 0 68)) (fun g e=>by cases e) rfl hrv⟩|some ad=>have hrun:=fun ty=>run_append_grow (P:=env.P) w 57 ty 68 i0 _ Tryz.underlying57 hi0' hz0 ad 0 0 [] (by simp) (fun j v hv=>by simp at hv) ⟨vb,vo,none⟩ 1 vc nv (by rw[hvl,hzs]) hvs' (by omega) (by omega) (growslice_fits (by omega) (by rw[hzb];omega));refine(qc1 (some ad) 0 0 vc ⟨vb,vo,none⟩ (Nat.le_refl _) (by omega) (fun e=>by cases e) w hrun).mono ?_;rintro e w1⟨rfl,rfl⟩;refine⟨_,rfl,InsOut.fin hH hmu ?_ (row:=none) (fun g e=>by cases e) rfl hrv⟩;have:=hfin (grownCap w (0+1) 0 68) (Builtin.zeroCells zMsg.cells (grownCap w (0+1) 0 68-(0+1))) (grownCap_ge w 1 0 68);simpa using this
   .cases h0
   .have hsz7:sz=7:=by obtain⟨y,hy⟩:=List.exists_mem_of_ne_nil _ hne;rw[<-hs _ hy,(hs7 y hy).1]
    subst hsz7;simp only[fT,if_false]at hg;have hvb:vb≠b:=fun e=>by have:=himm.2 _ 0 (by rw[e];exact hg);omega
    obtain⟨hrow,h1c⟩:=yc6 (X:=X) hs (fun y hy=>(hs7 y hy).2) hsz hcap hcells;have hcs:∀(k:Nat)u,(cur.toList.take (xs.length*7))[k]?=some u->cur[k]?=some u:=fun k u hu=>by
     rw[List.getElem?_take]at hu;split at hu;·simpa using hu
     .cases hu
    have hrowb:∀g,some b=some g->∃l,X.G g=some (l,0):=fun g e=>by cases e;exact⟨_,hg⟩
    have hnew:RowRep w X.imm 7 (xs.take n++x::xs.drop n) ((cur.toList.take (xs.length*7)).take (n*7)++nv++(cur.toList.take (xs.length*7)).drop (n*7)):=by rw[show xs.take n++x::xs.drop n=xs.take n++[x]++xs.drop n by simp];exact(RowRep.append (RowRep.append (RowRep.take hrow n) hrv) (RowRep.drop hrow n))
    have hnl:(xs.take n++x::xs.drop n).length=xs.length+1:=by simp;omega
    have hcl:(cur.toList.take (xs.length*7)).length=xs.length*7:=hrow.1;have hcap63:cap<=9223372036854775807:=by unfold maxLen at hmax;omega
    by_cases hlt:n<xs.length
    .by_cases hroom:xs.length+1<=cap;·refine(qr8 b xs.length cap n vb vo vc _ nv cur e w hlt hroom (by omega) hcap63 hvb hw hsz hcl hvl hcs hvs h1c h1v).mono ?_;rintro e1 w1⟨rfl,rfl⟩;refine⟨_,rfl,InsOut.fin hH hmu (row:=some b) ⟨b,cap,_,e,rfl,hroom,setRow_heap _ _ _ _ _ _ (setRow_heap w.drew _ _ _ _ _ hw),y59 hlt hroom hsz hcl hvl hcs,?_,.inl rfl⟩ hrowb hnl hnew⟩;exact World.grown_row _ (World.grown_row _ ⟨rfl,rfl,rfl,Nat.le_refl _,fun _ _ _=>rfl⟩)
     .refine(qui b xs.length cap n vb vo vc _ nv cur e w hlt hcap (by omega) (by omega) hw hcl hvl hcs hvs h1c h1v).mono ?_;rintro e1 w1⟨val,rfl,hout⟩;exact⟨_,rfl,InsOut.fin hH hmu hout (fun g e=>by cases e) hnl hnew⟩
    .have:n=xs.length:=by omega
     subst this;have hnew':RowRep w X.imm 7 (xs.take xs.length++x::xs.drop xs.length) (cur.toList.take (xs.length*7)++nv):=by have e1:(cur.toList.take (xs.length*7)).take (xs.length*7)=cur.toList.take (xs.length*7):=List.take_of_length_le (by omega);have e2:(cur.toList.take (xs.length*7)).drop (xs.length*7)=[]:=List.drop_eq_nil_of_le (by omega);rw[e1,e2,List.append_nil]at hnew;exact hnew
     by_cases hroom:xs.length+1<=cap
     .have hfit:xs.length*i0.size+nv.length<=cur.size:=by rw[hzs,hvl,hsz];omega
      refine(qc1 (some ⟨b,0,none⟩) xs.length cap vc ⟨vb,vo,none⟩ hcap (by omega) (fun e=>by cases e) w (fun ty=>q9v (P:=env.P) (w:=w) 57 ty 68 e i0 Tryz.underlying57 hi0' b xs.length cap cur hw ⟨vb,vo,none⟩ 1 vc nv (by rw[hvl,hzs]) hvs' h1v hroom hfit)).mono ?_;rintro e1 w1⟨rfl,rfl⟩;refine⟨_,rfl,InsOut.fin hH hmu (row:=some b) ⟨b,cap,_,e,rfl,hroom,setRow_heap _ _ _ _ _ _ hw,fun k u hu=>?_,World.grown_row _ ⟨rfl,rfl,rfl,Nat.le_refl _,fun _ _ _=>rfl⟩,.inl rfl⟩ hrowb hnl hnew'⟩;show(q1t cur (xs.length*i0.size) nv)[k]?=some u;rw[q3x _ _ _ hfit,hzs];by_cases hk:k<xs.length*7;·rw[List.getElem?_append_left (by omega)]at hu;rw[if_neg (by omega)];exact hcs k u hu
      .rw[List.getElem?_append_right (by omega),hcl]at hu;have:=(List.getElem?_eq_some_iff.1 hu).1;rw[if_pos (by omega)];exact hu
     .have hrun:=fun ty=>run_append_grow (P:=env.P) w 57 ty 68 i0 _ Tryz.underlying57 hi0' hz0 ⟨b,0,none⟩ xs.length cap (cur.toList.take (xs.length*7)) (by rw[hcl,hzs]) (fun j v hv=>by rw[q3h,Nat.zero_add];exact(cell_of_row w b _ cur e (0,0) hw).trans (hcs j v hv)) ⟨vb,vo,none⟩ 1 vc nv (by rw[hvl,hzs]) hvs' (by omega) (by omega) (growslice_fits (by omega) (by rw[hzb];omega));refine(qc1 (some ⟨b,0,none⟩) xs.length cap vc ⟨vb,vo,none⟩ hcap (by omega) (fun e=>by cases e) w hrun).mono ?_;rintro e1 w1⟨rfl,rfl⟩;refine⟨_,rfl,InsOut.fin hH hmu (row:=none) ⟨_,_,_,68,rfl,grownCap_ge w _ _ _,heap_alloc_new w.drew _,fun k u hu=>?_,⟨rfl,rfl,rfl,by simp,fun k hk _=>heap_alloc_old w.drew _ hk⟩,.inr (Nat.le_refl _)⟩ (fun g e=>by cases e) hnl hnew'⟩;have:=(List.getElem?_eq_some_iff.1 hu).1;simp only[List.length_append]at this;rw[Array.getElem?_append_left (by simp only[Array.size_append,List.size_toArray];omega),<-hu];simp
  .cases hm
 simp_all
end Go.Proofs.YtdmfjabikomgiaaGreat
namespace Go.Proofs.YtdmfjabikomgiaaGreat
open Go Go.Ab Go.Sort
variable {a b x : Claim} {l : LC}
instance:DecidableEq Claim:=fun a b=>decidable_of_iff (a.Topic=b.Topic/\a.Value=b.Value) (by cases a;cases b;simp)
def vcl(x:Claim):Bool:=decide (0<=x.Topic)&&(decide (x.Topic<8)&&(decide (0<=x.Value)&&decide (x.Value<=15)))
theorem y5s:vcl x=true↔0<=x.Topic/\x.Topic<8/\0<=x.Value/\x.Value<=15:=by simp[vcl]
def ltc(a b:Claim):Prop:=a.Topic<b.Topic\/a.Topic=b.Topic/\a.Value<b.Value
instance(a b:Claim):Decidable (ltc a b):=inferInstanceAs(Decidable (_\/_/\_))
theorem qjr{c:Claim}(h:ltc a b)(h':ltc b c):ltc a c:=by unfold ltc at*;omega
theorem q6e(a:Claim):¬ltc a a:=by unfold ltc;omega
theorem y0k(h:a≠b)(h':¬ltc b a):ltc a b:=by have:¬(a.Topic=b.Topic/\a.Value=b.Value):=fun e=>h (by cases a;simp_all);unfold ltc at*;omega
def cmpc(a b:Claim):Int:=if ltc a b then-1 else if a=b then 0 else 1
theorem eqc:((eqB a.Topic b.Topic)&&((eqB a.Value b.Value)&&true))=decide (a=b):=by cases a;cases b;simp[eqB]
theorem qer(x:Claim):z7r x=some (vcl x):=by apply yho;unfold vcl leB ltB;by_cases h1:0<=x.Topic<;>by_cases h2:x.Topic<8<;>by_cases h3:0<=x.Value<;>simp[h1,h2,h3]
theorem qg8(x:Claim):z98 x=some (vcl x):=by apply ygk;unfold vcl leB ltB;by_cases h1:0<=x.Topic<;>by_cases h2:x.Topic<8<;>by_cases h3:0<=x.Value<;>simp[h1,h2,h3]
theorem ql4(x y:Int):z4p x y=some (if x<y then-1 else if y<x then 1 else 0):=by
 have hn:∀z,z7j z=some false:=fun z=>ydz _ _ (by simp[neB]);apply yfz;rw[hn,hn];by_cases h:x<y;·simp[ltB,h]
 .by_cases h':y<x<;>simp[ltB,h,h']
theorem y6y(x y:Int):z9k [x,y]=some (if x≠0 then x else y):=by
 apply yiz;apply y3c;rw[q04 (by simp),q0m (y:=x) (by omega) rfl];simp only[cT];by_cases h:x=0
 .subst h;simp only[q0g,cF];rw[show addI .i64 0 1=1 from rfl];apply y3c;rw[q04 (by simp),q0m (y:=y) (by omega) rfl];simp only[cT];by_cases h':y=0;·subst h';simp only[q0g,cF];rw[show addI .i64 1 1=2 from rfl];apply y3c;rfl
  .rw[q1c h'];simp
 .rw[q1c h];grind
theorem yd4(a b:Claim):z8m a b=some (cmpc a b):=by apply yhz;rw[ql4,ql4];simp only[bS,y6y];cases a with|mk a1 a2=>cases b with|mk b1 b2=>simp only[cmpc,ltc,Claim.mk.injEq];grind
theorem y71(a b:Claim):z94 a b=some (cmpc a b):=by
 apply yf2;rw[eqc];by_cases h:a=b;·subst h;simp[cmpc,q6e]
 .have:¬(a.Topic=b.Topic/\a.Value=b.Value):=fun e=>h (by cases a;cases b;simp_all);simp only[h,decide_false,cF,cmpc,ltc,ltB,eqB];grind
def plainC:LC->Bool|[]=>true|[x]=>vcl x|x::y::r=>vcl x&&(decide (ltc x y)&&plainC (y::r))
theorem qkx{y:Claim}{r:LC}:plainC (x::y::r)=(vcl x&&(decide (ltc x y)&&plainC (y::r))):=rfl
theorem q0w:∀{l:LC},plainC l=true↔(∀x∈l,vcl x=true)/\l.Pairwise ltc
 |[]=>by simp[plainC]|[x]=>by simp[plainC]|x::y::r=>by
  rw[qkx,aT,aT,dT,q0w (l:=y::r),List.pairwise_cons (a:=x)];constructor
  .rintro⟨h1,h2,h3,h4⟩;refine⟨fun z hz=>by rcases List.mem_cons.1 hz with rfl|hz;exact h1;exact h3 z hz,fun z hz=>?_,h4⟩;rcases List.mem_cons.1 hz with rfl|hz;·exact h2
   .exact qjr h2 ((List.pairwise_cons.1 h4).1 z hz)
  simp_all
theorem y9b:leB 0 (cmpc a b)=!decide (ltc a b):=by unfold cmpc leB;grind
theorem y9x:ltB (cmpc a b) 0=decide (ltc a b):=by unfold cmpc ltB;grind
def plP:Option Claim->LC->Bool|_,[]=>true|none,y::r=>vcl y&&plP (some y) r|some z,y::r=>vcl y&&(decide (ltc z y)&&plP (some y) r)
theorem qw9:∀{z:Claim}{l:LC},vcl z=true->plP (some z) l=plainC (z::l)
 |z,[],h=>by simp[plP,plainC,h]|z,y::r,h=>by
  rw[qkx,h,tA',plP];by_cases hy:vcl y=true;·rw[qw9 hy,hy,tA']
  .have:plainC (y::r)=false:=by cases hp:plainC (y::r)with|false=>rfl|true=>exact absurd ((q0w.1 hp).1 y (by simp)) hy
   simp_all
theorem qwf(l:LC):plP none l=plainC l:=by cases l with|nil=>rfl|cons y r=>
  rw[plP];by_cases hy:vcl y=true;·rw[hy,tA',qw9 hy]
  .have:plainC (y::r)=false:=by cases hp:plainC (y::r)with|false=>rfl|true=>exact absurd ((q0w.1 hp).1 y (by simp)) hy
   simp_all
theorem qqa(l:LC)(hl:l.length<1152921504606846976):∀(suf:LC)(i:Nat)(z:Claim),l[i]?=some z->l.drop (i+1)=suf->z2e l l ((l.length:Nat):Int) ((i+1:Nat):Int)=some (plP (some z) suf)|[],i,z,hz,h=>by apply qxw;rw[q0c h];rfl|y::suf,i,z,hz,h=>by have hlt:=q09 h;apply qxw;rw[q05 h,cT,q02 h,qer,bS,q04 (by omega),cT,q46 (by omega) (by omega),q0m (y:=z) (by omega) (by simp_all),yd4,bS,y9b,q03 (by omega),qqa l hl suf (i+1) y (by have:=congrArg (·[0]?) h;grind) (q01 h)];rw[plP];cases vcl y<;>by_cases hc:ltc z y<;>simp[hc]
theorem qau(l:LC)(hl:l.length<1152921504606846976):z58 l=some (plainC l):=by apply yf7;rw[<-qwf];cases l with|nil=>apply qxw;rfl|cons y r=>apply qxw;have h:(y::r).drop 0=y::r:=rfl;have h0:ltB 0 (((y::r).length:Nat):Int)=true:=q04 (by simp);rw[h0,cT,q0m (y:=y) (by omega) rfl,qer,bS,q00 (by omega),cF,show addI .i64 0 1=((0+1:Nat):Int)from rfl,qqa (y::r) hl r 0 y rfl rfl,plP];cases vcl y<;>simp
theorem qs4(l:LC)(hl:l.length<1152921504606846976):∀(suf:LC)(i:Nat)(z:Claim),l[i]?=some z->l.drop (i+1)=suf->z2t l l ((l.length:Nat):Int) ((i+1:Nat):Int)=some (plP (some z) suf)|[],i,z,hz,h=>by apply qyh;rw[q0c h];rfl|y::suf,i,z,hz,h=>by have hlt:=q09 h;apply qyh;rw[q05 h,cT,q02 h,qg8,bS,q04 (by omega),cT,q46 (by omega) (by omega),q0m (y:=z) (by omega) (by simp_all),y71,bS,y9b,q03 (by omega),qs4 l hl suf (i+1) y (by have:=congrArg (·[0]?) h;grind) (q01 h)];rw[plP];cases vcl y<;>by_cases hc:ltc z y<;>simp[hc]
theorem qb9(l:LC)(hl:l.length<1152921504606846976):z6f l=some (plainC l):=by apply ygo;rw[<-qwf];cases l with|nil=>apply qyh;rfl|cons y r=>apply qyh;have h0:ltB 0 (((y::r).length:Nat):Int)=true:=q04 (by simp);rw[h0,cT,q0m (y:=y) (by omega) rfl,qg8,bS,q00 (by omega),cF,show addI .i64 0 1=((0+1:Nat):Int)from rfl,qs4 (y::r) hl r 0 y rfl rfl,plP];cases vcl y<;>simp
theorem y5r(l:LC)(hl:l.length<1152921504606846976)(x:Claim):∀(suf:LC)(i:Nat),l.drop i=suf->z7s l ((l.length:Nat):Int) (i:Int) x.Topic x.Value=some (decide (x∈suf))|[],i,h=>by apply y9y;rw[q0c h];simp|y::suf,i,h=>by have hlt:=q09 h;apply y9y;rw[q05 h,cT,q02 h,eqc,q03 (by omega),y5r l hl x suf (i+1) (q01 h)];by_cases hx:x=y<;>simp[hx]
theorem qa0(l:LC)(hl:l.length<1152921504606846976)(x:Claim):z38 l x=some (decide (x∈l)):=by apply yfd;exact y5r l hl x l 0 rfl
theorem y1e(l:LC)(hl:l.length<1152921504606846976)(x:Claim):∀(suf:LC)(i:Nat),l.drop i=suf->∃r:Int,z0z l ((l.length:Nat):Int) (i:Int) x.Topic x.Value=some r/\leB 0 r=decide (x∈suf)
 |[],i,h=>by refine⟨-1,y0j _ _ _ _ _ _ ?_,by rfl⟩;rw[q0c h];simp|y::suf,i,h=>by
  have hlt:=q09 h;obtain⟨r,h1,h2⟩:=y1e l hl x suf (i+1) (q01 h);by_cases hx:x=y;·refine⟨i,y0j _ _ _ _ _ _ ?_,by simp[leB,hx]⟩;rw[q05 h,cT,q02 h,eqc];grind
  .refine⟨r,y0j _ _ _ _ _ _ ?_,by simp_all⟩;rw[q05 h,cT,q02 h,eqc,q03 (by omega),decide_eq_false hx,cF,h1]
theorem qjp(l:LC)(hl:l.length<1152921504606846976)(x:Claim):z78 l x=some (decide (x∈l)):=by
 obtain⟨r,h1,h2⟩:=y1e l hl x l 0 rfl;apply yec;have h3:z3c l x=some r:=ye9 _ _ _ h1;have:z2i l x=some (decide (x∈l)):=by apply ye3;rw[h3,bS,h2]
 simp_all
theorem qpt(l k:LC)(hl:l.length<1152921504606846976)(hk:l.length=k.length):∀(suf suk:LC)(i:Nat),l.drop i=suf->k.drop i=suk->z6z l k ((l.length:Nat):Int) (i:Int)=some (decide (suf=suk))
 |[],suk,i,h,h'=>by
  have:suk=[]:=by rw[<-h',List.drop_eq_nil_iff,<-hk];simp_all
  subst this;apply yab;rw[q0c h];simp|y::suf,[],i,h,h'=>by have:=q09 h;have:=List.drop_eq_nil_iff.1 h';omega|y::suf,z::suk,i,h,h'=>by have hlt:=q09 h;apply yab;rw[q05 h,cT,q02 h,q02 h',eqc,q03 (by omega),qpt l k hl hk suf suk (i+1) (q01 h) (q01 h')];by_cases hx:y=z<;>simp[hx]
theorem q77(l k:LC)(hl:l.length<1152921504606846976):z5f l k=some (decide (l=k)):=by
 apply yfr;by_cases hk:l.length=k.length;·rw[hk,q0g,cF,<-hk];exact qpt l k hl hk l k 0 rfl rfl
 .rw[q1c (by omega),cT];have:l≠k:=fun e=>hk (by rw[e]);simp_all
theorem qqs(l k:LC)(hl:l.length<1152921504606846976)(hk:l.length=k.length):∀(suf suk:LC)(i:Nat),l.drop i=suf->k.drop i=suk->z1e l k ((l.length:Nat):Int) (i:Int)=some (decide (suf=suk))
 |[],suk,i,h,h'=>by
  have:suk=[]:=by rw[<-h',List.drop_eq_nil_iff,<-hk];simp_all
  subst this;apply ybl;rw[q0c h];simp|y::suf,[],i,h,h'=>by have:=q09 h;have:=List.drop_eq_nil_iff.1 h';omega|y::suf,z::suk,i,h,h'=>by have hlt:=q09 h;apply ybl;rw[q05 h,cT,q02 h,q02 h',eqc,q03 (by omega),qqs l k hl hk suf suk (i+1) (q01 h) (q01 h')];by_cases hx:y=z<;>simp[hx]
theorem qag(l k:LC)(hl:l.length<1152921504606846976):z12 l k=some (decide (l=k)):=by
 apply yhl;by_cases hk:l.length=k.length;·rw[hk,q0g,cF,<-hk];exact qqs l k hl hk l k 0 rfl rfl
 .rw[q1c (by omega),cT];have:l≠k:=fun e=>hk (by rw[e]);simp_all
def allC:LC:=(List.range 8).flatMap fun(i:Nat)=>(List.range 16).map fun(k:Nat)=>⟨(i:Int),(k:Int)⟩
def q0o(l:LC):LC:=allC.filter fun x=>decide (x∈l)
theorem y6g:x∈allC↔vcl x=true:=by
 rw[y5s,allC];simp only[List.mem_flatMap,List.mem_map,List.mem_range];constructor;·grind
 .rintro⟨h1,h2,h3,h4⟩;exact⟨x.Topic.toNat,by omega,x.Value.toNat,by omega,by cases x;grind⟩
theorem y7w:allC.Pairwise ltc:=by decide+kernel
theorem q27:x∈q0o l↔vcl x=true/\x∈l:=by simp[q0o,y6g]
theorem qcv(l:LC):(q0o l).Pairwise ltc:=List.Pairwise.filter _ y7w
theorem q42(l:LC):(q0o l).length<=128:=by
 have:allC.length=128:=by rfl
 rw[<-this];exact List.length_filter_le _ _
theorem q2u(l:LC):plainC (q0o l)=true:=q0w.2 ⟨fun _x hx=>(q27.1 hx).1,qcv l⟩
theorem quu:∀{l k:LC},l.Pairwise ltc->k.Pairwise ltc->(∀x,x∈l↔x∈k)->l=k
 |[],[],_,_,_=>rfl|[],y::k,_,_,h=>by have:=(h y).2 (by simp);grind|x::l,[],_,_,h=>by have:=(h x).1 (by simp);grind|x::l,y::k,h1,h2,h=>by
  rw[List.pairwise_cons]at h1 h2;have hxy:x=y:=by
   by_cases e:x=y;·exact e
   .have hx:x∈k:=by grind
    have hy:y∈l:=by grind
    exact absurd (qjr (h1.1 y hy) (h2.1 x hx)) (q6e x)
  subst hxy;rw[quu h1.2 h2.2 fun z=>?_];constructor
  .intro hz;rcases List.mem_cons.1 ((h z).1 (by simp[hz]))with e|h';·subst e;exact absurd (h1.1 z hz) (q6e z)
   omega
  .intro hz;rcases List.mem_cons.1 ((h z).2 (by simp[hz]))with e|h';·subst e;exact absurd (h2.1 z hz) (q6e z)
   omega
theorem qgj{k:LC}(h1:plainC l=true)(h2:plainC k=true)(h:∀x,x∈l↔x∈k):l=k:=quu (q0w.1 h1).2 (q0w.1 h2).2 h
theorem qzx(h:plainC l=true):q0o l=l:=qgj (q2u l) h fun x=>by rw[q27];exact⟨fun h=>h.2,fun hx=>⟨(q0w.1 h).1 x hx,hx⟩⟩
theorem q7c{x:Claim}:∀{l:LC},x∈q0j l↔x∈l
 |[]=>Iff.rfl|[y]=>Iff.rfl|y::z::r=>by
  rw[q1w];split;·rename_i e;subst e;rw[q7c (l:=y::r)];simp
  .simp only[List.mem_cons,q7c (l:=z::r)]
theorem qa2:∀{l:LC},l.Pairwise (fun x y=>¬ltc y x)->(q0j l).Pairwise ltc
 |[],_=>List.Pairwise.nil|[y],_=>by simp[q0j]|y::z::r,h=>by
  rw[List.pairwise_cons]at h;rw[q1w];split;·exact qa2 h.2
  .rename_i e;refine List.pairwise_cons.2 ⟨fun u hu=>?_,qa2 h.2⟩;have hyz:=y0k e (h.1 z (by simp));rcases List.mem_cons.1 (q7c.1 hu)with rfl|hu;·omega
   .by_cases e2:z=u;·simp_all
    .exact qjr hyz (y0k e2 ((List.pairwise_cons.1 h.2).1 u hu))
theorem qwd(l:LC)(hl:l.length<1152921504606846976)(i:Nat)(hi:i<8)(Q:LC->Prop)(hQ:∀acc:LC,acc.length<=16*(i+1)->∃r,z37 l acc ((i+1:Nat):Int)=some (acc++r)/\Q r):∀(n k:Nat)(acc:LC),k+n=16->acc.length<=16*i+k->∃r,z2g l acc (i:Int) (k:Int)=some (acc++(((List.range' k n).map fun(k:Nat)=>(⟨(i:Int),(k:Int)⟩:Claim)).filter fun x=>decide (x∈l))++r)/\Q r
 |0,k,acc,hk,ha=>by obtain⟨r,h1,h2⟩:=hQ acc (by omega);refine⟨r,y0l _ _ _ _ _ ?_,h2⟩;rw[q0v (by omega),cF,q03 (by omega),h1];simp|n+1,k,acc,hk,ha=>by
  have step:=fun acc' h=>qwd l hl i hi Q hQ n (k+1) acc' (by omega) h;by_cases hx:(⟨(i:Int),(k:Int)⟩:Claim)∈l;·obtain⟨r,h1,h2⟩:=step (acc++[⟨(i:Int),(k:Int)⟩]) (by grind);refine⟨r,y0l _ _ _ _ _ ?_,h2⟩;rw[q0s (by omega),cT,qa0 l hl,bS,decide_eq_true hx,cT,q06 (by simp[q07];omega),q03 (by omega),h1];simp[List.range'_succ,hx]
  .obtain⟨r,h1,h2⟩:=step acc (by omega);refine⟨r,y0l _ _ _ _ _ ?_,h2⟩;rw[q0s (by omega),cT,qa0 l hl,bS,decide_eq_false hx,cF,q03 (by omega),h1];simp[List.range'_succ,hx]
theorem qw8(l:LC)(hl:l.length<1152921504606846976):∀(n i:Nat)(acc:LC),i+n=8->acc.length<=16*i->∃r,z37 l acc (i:Int)=some (acc++r)/\r=(((List.range' i n).flatMap fun(i:Nat)=>(List.range 16).map fun(k:Nat)=>(⟨(i:Int),(k:Int)⟩:Claim)).filter fun x=>decide (x∈l))|0,i,acc,hi,ha=>by refine⟨[],yap _ _ _ _ ?_,rfl⟩;rw[q00 (by omega)];simp|n+1,i,acc,hi,ha=>by obtain⟨r,h1,h2⟩:=qwd l hl i (by omega) (fun r=>r=(((List.range' (i+1) n).flatMap fun(i:Nat)=>(List.range 16).map fun(k:Nat)=>(⟨(i:Int),(k:Int)⟩:Claim)).filter fun x=>decide (x∈l))) (fun acc' h=>qw8 l hl n (i+1) acc' (by omega) (by omega)) 16 0 acc (by omega) (by omega);refine⟨_,yap _ _ _ _ ?_,rfl⟩;rw[q04 (by omega),cT];have h1':z2g l acc (i:Int) 0=_:=h1;rw[h1',h2,List.append_assoc];simp only[List.range'_succ,List.flatMap_cons,List.filter_append,List.range_eq_range']
theorem qfz(l:LC)(hl:l.length<1152921504606846976):z7t l=some (q0o l):=by apply yhp;obtain⟨r,h1,h2⟩:=qw8 l hl 8 0 [] rfl (by simp);have h1':z37 l [] 0=_:=h1;rw[h1',h2,List.nil_append,q0o,allC,List.range_eq_range' (n:=8)]
theorem qt2(l:LC)(x:Claim)(hl:l.length<1000000):z9g l x=some (q0o (l++[x])):=by apply ygb;rw[q06 (by simp[q07];omega),q06 (by simp[q07];omega),List.nil_append,qfz _ (by grind)];rfl
theorem qbh(a b:LC)(ha:a.length<1000000)(hb:b.length<1000000):z6h a b=some (q0o (a++b)):=by apply yg2;rw[q06 (by simp[q07];omega),q06 (by simp[q07];omega),List.nil_append,qfz _ (by grind)];rfl
theorem y0p(l:LC)(hl:l.length<1152921504606846976)(hv:∀x∈l,vcl x=true):∀(suf:LC)(i:Nat),l.drop i=suf->z0f ((l.length:Nat):Int) (i:Int) l=some (-1,l)
 |[],i,h=>by apply yb0;rw[q0c h];simp|y::suf,i,h=>by
  have hlt:=q09 h;apply yb0;have hy:vcl y=true:=hv y (List.mem_of_mem_drop (i:=i) (by simp_all));have h1:z86 y=some false:=yin _ _ (by rw[qer,hy];rfl);have hg:l[i]?=some y:=by have:=congrArg (·[0]?) h;grind
  rw[q05 h,cT,q02 h,tN,q2p hg,h1,bS,cF,q03 (by omega),y0p l hl hv suf (i+1) (q01 h)]
theorem qpq(l:LC):(l.map q0h).all flatD=true:=by rw[List.all_eq_true];intro x hx;obtain⟨y,_,rfl⟩:=List.mem_map.1 hx;rfl
theorem qhc(l:LC):(l.map q0h).all (q5q 2)=true:=by rw[List.all_eq_true];intro x hx;obtain⟨y,_,rfl⟩:=List.mem_map.1 hx;rfl
theorem qtn(l:LC)(hl:l.length<1000000):z91 l=some (q0j l,()):=by
 refine qaq (T:=tn) (m:=q6g 2) sigOk (by rfl) rfl ?_;show libA (q6g 2) [.ref 0] [[.own (l.map q0h) false]]=some (.d (.list ((q0j l).map q0h)),[[.undef]]);unfold libA q6g;have h1:(l.map q0h).length<=q07:=by simp[q07];omega
 simp only[qpq,qhc,h1,and_self,if_true];rw[qaf (fun a b h=>q4p a b h) l];rfl
theorem qal:∀(l:LC),(∀x∈l,vcl x=true)->q61 (l.map q0h)=some (l.map fun x=>(x.Topic,x.Value))|[],_=>rfl|x::r,h=>by have hx:=y5s.1 (h x (by simp));show(if _ then _ else _)=_;rw[if_pos (by omega)];rw[qal r fun y hy=>h y (by grind)];rfl
theorem y80(l:LC)(hl:l.length<65536)(hv:∀x∈l,vcl x=true):∃ys,z1x l=some ys/\ys.Perm l/\ys.Pairwise fun x y=>ltB (cmpc y x) 0=false:=by
 refine⟨l.mergeSort fun x y=>!q5c (y.Topic,y.Value) (x.Topic,x.Value),?_,List.mergeSort_perm _ _,?_⟩;·refine qaq (T:=tn) (m:=qbt _) sigOk (by rfl) rfl ?_;show libA (qbt _) [.ref 0,.fn _ []] [[.own (l.map q0h) false]]=some (.tup [],[[.own ((l.mergeSort fun x y=>!q5c (y.Topic,y.Value) (x.Topic,x.Value)).map q0h) false]]);unfold libA qbt;simp only[qal l hv];rw[if_pos ⟨trivial,by simp[q07];omega⟩];have h:=List.map_mergeSort (r:=fun x y=>!q5c (y.Topic,y.Value) (x.Topic,x.Value)) (s:=fun x y=>!q5c y x) (f:=fun x:Claim=>(x.Topic,x.Value)) (l:=l) fun a _ b _=>rfl;rw[<-h,List.map_map];rfl
 .refine(List.pairwise_mergeSort (fun a b c h h'=>?_) (fun a b=>?_) l).imp fun{a b}h=>?_;·simp only[q5c,Bool.not_eq_true',Bool.or_eq_false_iff,Bool.and_eq_false_iff,decide_eq_false_iff_not]at*;omega
  .cases h1:q5c (b.Topic,b.Value) (a.Topic,a.Value)with|false=>rfl|true=>simp only[q5c,Bool.or_eq_true,aT,dT]at h1;simp[q5c];omega
  .rw[y9x];simp only[q5c,Bool.not_eq_true',Bool.or_eq_false_iff,Bool.and_eq_false_iff,decide_eq_false_iff_not]at*;unfold ltc;omega
theorem qnc(l:LC)(hl:l.length<65536)(hv:∀x∈l,vcl x=true):z7w l=some (q0o l):=by
 apply yha;have h1:z06 l=some ((),l):=y8z _ _ (by rw[q06 (by simp[q07];omega)];rfl);have h2:z0q l=some ((),l):=by apply ye0;rw[yey _ _ (y0p l (by omega) hv l 0 rfl)];rfl
 obtain⟨ys,h3,h4,h5⟩:=y80 l hl hv;have h6:z1x l=some ys:=h3;rw[h1,bS,h2,bS,h6,bS,qtn ys (by rw[h4.length_eq];omega)];show some (q0j ys)=_;congr 1;refine quu (qa2 (h5.imp fun h=>by simpa[y9x]using h)) (qcv l) fun x=>?_;rw[q7c,q27,h4.mem_iff];simp_all
theorem qzn(a b:LC)(ha:a.length<1000000)(hb:b.length<1000000):z9b [a,b]=some ((),a++b):=by
 refine qaq (T:=tn) (m:=q83 2) sigOk (by rfl) rfl ?_;show libA (q83 2) [.d (.list [.list (a.map q0h),.list (b.map q0h)])] []=some (.ref 0,[[.own ((a++b).map q0h) false]]);unfold libA q83;have h0:qgm [.list (a.map q0h),.list (b.map q0h)]=some [a.map q0h,b.map q0h]:=rfl;have h1:([a.map q0h,b.map q0h]:List (List D)).flatten.length<=q07:=by simp[q07];omega
 have h2:([.list (a.map q0h),.list (b.map q0h)]:List D).length<=q07:=by simp[q07]
 have h3:([a.map q0h,b.map q0h]:List (List D)).flatten=(a++b).map q0h:=by simp
 simp only[h0,h2,h3,qhc,and_self];rw[h3]at h1;rw[if_pos ⟨h1,trivial⟩];rfl
theorem y5j(a b:LC)(ha:a.length<30000)(hb:b.length<30000)(hva:∀x∈a,vcl x=true)(hvb:∀x∈b,vcl x=true):z9e a b=some (q0o (a++b)):=by apply yiw;rw[qzn a b (by omega) (by omega),bS,qnc (a++b) (by grind) (fun x hx=>(List.mem_append.1 hx).elim (hva x) (hvb x))];rfl
theorem quz(a:LC)(x:Claim)(ha:a.length<30000)(hva:∀x∈a,vcl x=true)(hx:vcl x=true):z8x a x=some (q0o (a++[x])):=by apply yj3;rw[y5j a [x] ha (by simp) hva (fun y hy=>by simp_all)];rfl
def Contra(a b:Claim):Prop:=a.Topic=b.Topic/\a.Value≠b.Value
instance(a b:Claim):Decidable (Contra a b):=inferInstanceAs(Decidable (_/\_))
theorem Contra.symm(h:Contra a b):Contra b a:=⟨h.1.symm,fun e=>h.2 e.symm⟩
def consC(l:LC):Bool:=decide (∀x∈l,∀y∈l,¬Contra x y)
theorem q56:consC l=true↔∀x∈l,∀y∈l,¬Contra x y:=by simp[consC]
theorem qnn(a b:Claim):z5j a b=some (decide (Contra a b)):=by apply yfv;by_cases h:a.Topic=b.Topic<;>by_cases h':a.Value=b.Value<;>simp[eqB,neB,Contra,h,h']
theorem qbz(a b:Claim):z3k a b=some (decide (Contra a b)):=by apply yej;by_cases h:a.Topic=b.Topic<;>by_cases h':a.Value=b.Value<;>simp[eqB,neB,Contra,h,h']
theorem qwm(l:LC)(i:Nat)(x:Claim)(p:LC)(hp:p.length<1152921504606846976)(hi:i<1152921504606846976)(r:Bool)(hr:z1t l l ((l.length:Nat):Int) ((i+1:Nat):Int)=some r):∀(suf:LC)(k:Nat),p.drop k=suf->z27 l l ((l.length:Nat):Int) (i:Int) p ((p.length:Nat):Int) (k:Int) x.Topic x.Value=some (decide (∀y∈suf,¬Contra x y)&&r)|[],k,h=>by apply y9q;rw[q0c h,cF,q03 (by omega),hr];simp|y::suf,k,h=>by have hlt:=q09 h;apply y9q;rw[q05 h,cT,q02 h,qbz,bS,q03 (by omega),qwm l i x p hp hi r hr suf (k+1) (q01 h)];by_cases hx:Contra x y<;>simp[hx]
def consF:LC->LC->Bool|_,[]=>true|p,y::r=>decide (∀z∈p,¬Contra y z)&&consF (p++[y]) r
theorem qxk(l:LC)(hl:l.length<1152921504606846976):∀(suf:LC)(i:Nat),l.drop i=suf->z1t l l ((l.length:Nat):Int) (i:Int)=some (consF (l.take i) suf)
 |[],i,h=>by apply y95;simp[q0c h,consF]|y::suf,i,h=>by
  have hlt:=q09 h;have hg:l[i]?=some y:=by have:=congrArg (·[0]?) h;grind
  apply y95;have htk:l.take (i+1)=l.take i++[y]:=by grind
  rw[q05 h,cT,q02 h,qc5 (by omega) (by omega),tN,List.drop_zero];have:=qwm l i y (l.take i) (by grind) (by omega) _ (qxk l hl suf (i+1) (q01 h)) (l.take i) 0 rfl;have h':z27 l l ((l.length:Nat):Int) (i:Int) (l.take i) (((l.take i).length:Nat):Int) 0 y.Topic y.Value=_:=this;rw[h',htk,consF]
theorem qrv:∀(r p:LC),consF p r=true↔(∀y∈r,∀z∈p,¬Contra y z)/\consC r=true
 |[],p=>by simp[consF,consC]|y::r,p=>by
  rw[consF,aT,dT,qrv r (p++[y]),q56,q56];constructor
  .rintro⟨h1,h2,h3⟩;refine⟨fun u hu z hz=>?_,fun u hu z hz=>?_⟩
   .rcases List.mem_cons.1 hu with rfl|hu;·exact h1 z hz
    .exact h2 u hu z (by simp[hz])
   .rcases List.mem_cons.1 hu with e|hu'<;>rcases List.mem_cons.1 hz with e'|hz';·subst e;subst e';intro h;exact h.2 rfl
    .subst e;intro h;exact h2 z hz' u (by simp) h.symm
    .subst e';exact h2 u hu' z (by simp)
    .exact h3 u hu' z hz'
  grind
theorem qw5(l:LC)(hl:l.length<1152921504606846976):z67 l=some (consC l):=by apply yip;have h:z1t l l ((l.length:Nat):Int) 0=_:=qxk l hl l 0 rfl;rw[h,List.take_zero];congr 1;rw[Bool.eq_iff_iff,qrv];simp
theorem qha:∀(l:LC),q3u (l.map fun x=>(x.Topic,x.Value))=consC l
 |[]=>rfl|x::r=>by
  rw[List.map_cons,q3u,qha r,Bool.eq_iff_iff,aT,q56,q56,List.all_eq_true];simp only[List.mem_map,forall_exists_index,and_imp,forall_apply_eq_imp_iff₂];constructor
  .rintro⟨h1,h2⟩u hu z hz;have h1':∀a∈r,¬Contra x a:=fun a ha hc=>by have:=h1 a ha;simp[hc.1,hc.2]at this
   rcases List.mem_cons.1 hu with e|hu'<;>rcases List.mem_cons.1 hz with e'|hz';·subst e;subst e';intro h;exact h.2 rfl
   .subst e;exact h1' z hz'
   .subst e';intro h;exact h1' u hu' h.symm
   simp_all
  .intro h;refine⟨fun a ha=>?_,fun u hu z hz=>h u (by simp[hu]) z (by simp[hz])⟩;have:=h x (by simp) a (by simp[ha]);simp only[Contra,not_and,ne_eq,Classical.not_not]at this;grind
theorem qpb(l:LC)(hl:l.length<1000000)(hv:∀x∈l,vcl x=true):z8f l=some (consC l):=by refine qaq (T:=tn) (m:=q4c) sigOk (by rfl) rfl ?_;show libA q4c [.d (.list (l.map q0h))] []=some (.d (.v (.bool (consC l))),[]);unfold libA q4c;simp only[qal l hv,qha];rw[if_pos (by simp[q07];omega)];rfl
end Go.Proofs.YtdmfjabikomgiaaGreat
namespace Go.Proofs.YtdmfjabikomgiaaGreat
open Go Go.Ab
variable {s : Nat} {t x : Trust} {k : Int}
theorem Trust.ind{p:Trust->Prop}(h:∀t,(∀x∈t.Inner,p x)->p t)(t:Trust):p t:=h t fun x _hx=>Trust.ind h x
termination_by SizeOf.sizeOf t
decreasing_by have:=List.sizeOf_lt_of_mem _hx;cases t;grind
@[simp]theorem Trust.eta(t:Trust):Trust.mk t.Threshold t.Nodes t.Inner=t:=by cases t;rfl
def has(s:Nat)(k:Int):Bool:=decide (0<=k)&&(decide (k<10)&&s.testBit k.toNat)
def cnt(s:Nat)(l:LI):Nat:=l.countP (has s)
theorem q2x(h:s<1024):z4f s=some true:=by apply yj0;simp only[q0s (show(0:Int)<=(s:Int)by omega),q0s (show(s:Int)<=1023 by omega),cT]
theorem q3n(h:s<1024):z2b s=some true:=by
 apply yaz;have:z6w s 10=some true:=by apply y8q;simp only[q0s (show(0:Int)<=(s:Int)by omega),cT,q0i (show(0:Int)<=10 by decide),shl1 (show(0:Int)<=10 by decide) (by decide)];rw[q04];show(s:Int)<((2^10:Nat):Int);omega
 simp_all
theorem qo7(s k:Nat):(s>>>k)&&&1=if s.testBit k then 1 else 0:=by rw[Nat.testBit_eq_decide_div_mod_eq,Nat.shiftRight_eq_div_pow,Nat.and_one_is_mod];grind
theorem q1b(h:s<1024)(k:Int):z1u s k=some (has s k):=by
 apply yd7;simp only[q2x h,bS,cT];unfold has;by_cases h0:0<=k
 .by_cases h1:k<10
  .obtain⟨n,rfl⟩:=Int.eq_ofNat_of_zero_le h0;have hn:n<10:=by omega
   simp only[q0s h0,q04 h1,cT,q0i h0,y76 s n (by omega),decide_eq_true h0,decide_eq_true h1,tA',tN];have h2:s>>>n<2^62:=Nat.lt_of_le_of_lt (Nat.shiftRight_le _ _) (by omega);have h3:andI .i64 ((s>>>n:Nat):Int) 1=(((s>>>n)&&&1:Nat):Int):=q9g (b:=1) h2 (by decide);rw[h3,qo7];cases s.testBit n<;>rfl
  .simp only[q0s h0,q00 (Int.not_lt.1 h1),cT,cF,h1,decide_false,Bool.false_and,Bool.and_false]
 .simp only[q0v (Int.not_le.1 h0),cF,h0,decide_false,Bool.false_and]
theorem yc8(s k:Nat):s&&&2^k=if s.testBit k then 2^k else 0:=by apply Nat.eq_of_testBit_eq;grind
theorem q1i(h:s<1024)(k:Int):z15 s k=some (has s k):=by
 apply ydd;simp only[q3n h,bS,cT];unfold has;by_cases h0:0<=k
 .by_cases h1:k<10
  .obtain⟨n,rfl⟩:=Int.eq_ofNat_of_zero_le h0;have hn:n<10:=by omega
   simp only[q0s h0,q04 h1,cT,q0i h0,shl1 h0 (show((n:Nat):Int)<=62 by omega),decide_eq_true h0,decide_eq_true h1,tA',tN];have h2:2^n<2^62:=Nat.pow_lt_pow_right (by decide) (by omega);rw[q9g (show s<2^62 by omega) h2,yc8];cases s.testBit n with
   |true=>
    have:(2:Nat)^n≠0:=by simp
    simp only[if_true];rw[q1c (by omega)]|false=>rfl
  .simp only[q0s h0,q00 (Int.not_lt.1 h1),cT,cF,h1,decide_false,Bool.false_and,Bool.and_false]
 .simp only[q0v (Int.not_le.1 h0),cF,h0,decide_false,Bool.false_and]
mutual
def size : Trust -> Nat
 | ⟨_, nodes, inner⟩ => nodes.length + inner.length + sizes inner
def sizes : LT -> Nat
 | [] => 0
 | x :: r => size x + sizes r
end
mutual
def depth : Trust -> Nat
 | ⟨_, _, inner⟩ => q50 inner + 1
def q50 : LT -> Nat
 | [] => 0
 | x :: r => max (depth x) (q50 r)
end
theorem q2a(t:Trust):size t=t.Nodes.length+t.Inner.length+sizes t.Inner:=by cases t;rfl
theorem qe0(t:Trust):depth t=q50 t.Inner+1:=by cases t;rfl
theorem qnu{l:LT}(h:x∈l):size x<=sizes l:=by induction l with|nil=>cases h|cons y r ih=>simp only[sizes];grind
def Small(t:Trust):Prop:=size t<1152921504606846976
theorem Small.nodes(h:Small t):t.Nodes.length<1152921504606846976:=by unfold Small at h;rw[q2a]at h;omega
theorem Small.inner(h:Small t):t.Inner.length<1152921504606846976:=by unfold Small at h;rw[q2a]at h;omega
theorem Small.mem(h:Small t)(hx:x∈t.Inner):Small x:=by unfold Small at*;rw[q2a]at h;have:=qnu hx;omega
mutual
def sat (s : Nat) : Trust -> Bool
 | ⟨thr, nodes, inner⟩ => decide (thr <= ((cnt s nodes + sats s inner : Nat) : Int))
def sats (s : Nat) : LT -> Nat
 | [] => 0
 | x :: r => (if sat s x then 1 else 0) + sats s r
end
theorem y4m(s:Nat)(t:Trust):sat s t=decide (t.Threshold<=((cnt s t.Nodes+sats s t.Inner:Nat):Int)):=by cases t;rfl
theorem qbg{s:Nat}(hs:s<1024)(xs:LI)(hl:xs.length<1152921504606846976)(a11:Int)(a13:LI)(a15:LT):∀(suf:LI)(i c:Nat),xs.drop i=suf->c<=i->Le (z21 s ((c+cnt s suf:Nat):Int) a15 ((a15.length:Nat):Int) 0 a11 a13 a15) (z2j s (c:Int) xs ((xs.length:Nat):Int) (i:Int) a11 a13 a15)|[],i,c,h,hc=>fun r hr=>by apply yac;simp only[q0c h,cF];exact hr|y::suf,i,c,h,hc=>fun r hr=>by apply yac;have hlt:=q09 h;simp only[q05 h,cT,q02 h,q1b hs,bS,q03 (show i<4611686018427387904 by omega),q03 (show c<4611686018427387904 by omega)];cases hy:has s y with|true=>simp only[cT];refine qbg hs xs hl a11 a13 a15 suf (i+1) (c+1) (q01 h) (by omega) r ?_;rw[<-hr];congr 2;simp only[cnt,List.countP_cons,hy,if_true];omega|false=>simp only[cF];refine qbg hs xs hl a11 a13 a15 suf (i+1) c (q01 h) (by omega) r ?_;rw[<-hr];congr 2;simp only[cnt,List.countP_cons,hy];rfl
theorem qhi(hs:s<1024):∀t:Trust,Small t->z5h t s=some (sat s t):=by
 apply Trust.ind;intro t ih ht;have hn:=ht.nodes;have hi:=ht.inner;have l2:∀(suf:LT)(i c:Nat),t.Inner.drop i=suf->c<=t.Nodes.length+i->z21 s (c:Int) t.Inner ((t.Inner.length:Nat):Int) (i:Int) t.Threshold t.Nodes t.Inner=some (decide (t.Threshold<=((c+sats s suf:Nat):Int))):=by intro suf;induction suf with|nil=>intro i c h hc;apply yb8;simp only[q0c h,cF,sats,Nat.add_zero];rfl|cons y suf ihs=>
   intro i c h hc;apply yb8;have hlt:=q09 h;have hy:y∈t.Inner:=by
    have:y∈t.Inner.drop i:=by rw[h];exact List.mem_cons_self
    grind
   simp only[q05 h,cT,q02 h,ih y hy (ht.mem hy),bS,q03 (show i<4611686018427387904 by omega),q03 (show c<4611686018427387904 by omega)];cases hsy:sat s y with|true=>simp only[cT];rw[ihs (i+1) (c+1) (q01 h) (by omega)];simp only[sats,hsy,if_true];grind|false=>simp only[cF];rw[ihs (i+1) c (q01 h) (by omega)];simp only[sats,hsy,fT,if_false,Nat.zero_add]
 apply ygv;simp only[q2x hs,bS,nT,cF];apply qbg hs t.Nodes (by omega) t.Threshold t.Nodes t.Inner t.Nodes 0 0 rfl (Nat.le_refl _);rw[show(0:Int)=((0:Nat):Int)from rfl,l2 t.Inner 0 _ rfl (by have:cnt s t.Nodes<=t.Nodes.length:=List.countP_le_length;omega)];rw[y4m,Nat.zero_add]
theorem qgh:∀t:Trust,Small t->z8w t=some ((size t:Nat):Int):=by
 apply Trust.ind;intro t ih ht;have hn:=ht.nodes;have hi:=ht.inner;have hs:size t<1152921504606846976:=ht;have l1:∀(suf:LT)(i c:Nat),t.Inner.drop i=suf->c+sizes suf=size t->z6x (c:Int) t.Inner ((t.Inner.length:Nat):Int) (i:Int) t.Threshold t.Nodes t.Inner=some ((size t:Nat):Int):=by intro suf;induction suf with|nil=>intro i c h hc;apply yae;simp only[q0c h,cF];simp only[sizes,Nat.add_zero]at hc;rw[hc]|cons y suf ihs=>intro i c h hc;apply yae;have hlt:=q09 h;have hy:y∈t.Inner:=List.mem_of_mem_drop (by rw[h];simp);simp only[sizes]at hc;simp only[q05 h,cT,q02 h,ih y hy (ht.mem hy),bS,q03 (show i<4611686018427387904 by omega)];rw[q22 (by omega) (by omega)];exact ihs (i+1) (c+size y) (q01 h) (by omega)
 apply yei;rw[q22 (by omega) (by omega)];have h1:=q2a t;exact l1 t.Inner 0 (t.Nodes.length+t.Inner.length) rfl (by omega)
theorem q64:∀t:Trust,depth t<=size t+1:=by
 apply Trust.ind;intro t ih;rw[qe0,q2a];have:∀l:LT,(∀x∈l,depth x<=size x+1)->q50 l<=sizes l+l.length:=by intro l;induction l with|nil=>intro _;simp[q50]|cons y r ihl=>intro h;have h1:=h y (by simp);have h2:=ihl (fun x hx=>h x (by simp[hx]));simp only[q50,sizes,List.length_cons];omega
 grind
theorem qbu:∀t:Trust,Small t->z8c t=some ((depth t:Nat):Int):=by
 apply Trust.ind;intro t ih ht;have hi:=ht.inner;have hd:=q64 t;have hs:size t<1152921504606846976:=ht;have l1:∀(suf:LT)(i c:Nat),t.Inner.drop i=suf->max c (q50 suf)=q50 t.Inner->z62 (c:Int) t.Inner ((t.Inner.length:Nat):Int) (i:Int) t.Threshold t.Nodes t.Inner=some ((depth t:Nat):Int):=by intro suf;induction suf with|nil=>intro i c h hc;apply y9e;simp only[q0c h,cF];simp only[q50,Nat.max_zero]at hc;rw[qe0]at hd⊢;rw[hc,q03 (by omega)]|cons y suf ihs=>
   intro i c h hc;apply y9e;have hlt:=q09 h;have hy:y∈t.Inner:=List.mem_of_mem_drop (by rw[h];simp);simp only[q50]at hc;simp only[q05 h,cT,q02 h,ih y hy (ht.mem hy),bS,q03 (show i<4611686018427387904 by omega)];have:(if((depth y:Nat):Int)>(c:Int)then((depth y:Nat):Int)else(c:Int))=((max c (depth y):Nat):Int):=by split<;>omega
   rw[this];exact ihs (i+1) (max c (depth y)) (q01 h) (by omega)
 apply yi3;exact l1 t.Inner 0 0 rfl (by omega)
def inR(k:Int):Bool:=decide (0<=k)&&decide (k<10)
def bit(k:Int):Nat:=2^k.toNat
theorem q9q(h:inR k=true):bit k<1024:=by
 simp only[inR,aT,dT]at h;have:k.toNat<10:=by omega
 exact Nat.pow_lt_pow_right (a:=2) (by decide) this
theorem qgc(h:inR k=true):shlI .i64 1 k=((bit k:Nat):Int):=by simp only[inR,aT,dT]at h;exact shl1 h.1 (by omega)
theorem y1w{j:Int}(hk:inR k=true):has (s|||bit k) j=(has s j||(decide (j=k))):=by simp only[inR,aT,dT]at hk;simp only[has,bit,Nat.testBit_or,Nat.testBit_two_pow];grind
def fresh(s:Nat):LI->Bool|[]=>true|k::r=>inR k&&(!has s k&&fresh (s|||bit k) r)
theorem of_l1(xs:LI)(hl:xs.length<1152921504606846976):∀(suf:LI)(i s:Nat),xs.drop i=suf->s<1024->∃v e,z2f (s:Int) xs ((xs.length:Nat):Int) (i:Int)=some (v,e)/\(e=0↔fresh s suf=true)
 |[],i,s,h,hs=>⟨s,0,by apply qhb;simp only[q0c h,cF],by simp[fresh]⟩|y::suf,i,s,h,hs=>by
  have hlt:=q09 h;by_cases hy:inR y=true;·have hy':=hy;simp only[inR,aT,dT]at hy';cases hh:has s y with|true=>refine⟨0,6,?_,by simp[fresh,hy,hh]⟩;apply qhb;simp only[q05 h,cT,q02 h,q00 hy'.1,q0v hy'.2,cF,q1b hs,hh,bS]|false=>have hb:=q9q hy;obtain⟨v,e,h1,h2⟩:=of_l1 xs hl suf (i+1) (s|||bit y) (q01 h) (Nat.or_lt_two_pow (n:=10) hs hb);refine⟨v,e,?_,by rw[h2];simp[fresh,hy,hh]⟩;apply qhb;simp only[q05 h,cT,q02 h,q00 hy'.1,q0v hy'.2,cF,q1b hs,hh,bS,q0i hy'.1,qgc hy,q3a (show s<2^62 by omega) (show bit y<2^62 by omega),q03 (show i<4611686018427387904 by omega)];omega
  .have hn:¬(0<=y/\y<10):=by simpa[inR]using hy
   refine⟨0,5,?_,by simp[fresh,hy]⟩;apply qhb;simp only[q05 h,cT,q02 h];by_cases h0:y<0;·simp only[q04 h0,cT]
   .simp only[q00 (Int.not_lt.1 h0),cF,q0s (show 10<=y by omega),cT]
theorem of_ok(xs:LI)(hl:xs.length<1152921504606846976):∃v e,z9o xs=some (v,e)/\(e=0↔fresh 0 xs=true):=by obtain⟨v,e,h1,h2⟩:=of_l1 xs hl xs 0 0 rfl (by decide);exact⟨v,e,y8n _ _ h1,h2⟩
mutual
def good : Trust -> Bool
 | ⟨thr, nodes, inner⟩ => decide (1 <= thr) && (decide (thr <= ((nodes.length + inner.length : Nat) : Int)) && (nodes.all inR && (fresh 0 nodes && goods inner)))
def goods : LT -> Bool
 | [] => true
 | x :: r => good x && goods r
end
theorem qg9(t:Trust):good t=(decide (1<=t.Threshold)&&(decide (t.Threshold<=((t.Nodes.length+t.Inner.length:Nat):Int))&&(t.Nodes.all inR&&(fresh 0 t.Nodes&&goods t.Inner)))):=by cases t;rfl
theorem qxq(xs:LI)(hl:xs.length<1152921504606846976)(thr:Int)(inner:LT)(Q:Int->Prop)(hQ:∃e,z1p inner ((inner.length:Nat):Int) 0 thr xs inner=some e/\Q e):∀(suf:LI)(i:Nat),xs.drop i=suf->∃e,z1o xs ((xs.length:Nat):Int) (i:Int) thr xs inner=some e/\(if suf.all inR&&fresh 0 xs then Q e else e≠0)
 |[],i,h=>by obtain⟨v,e,h1,h2⟩:=of_ok xs hl;cases hf:fresh 0 xs with|true=>obtain⟨e',h3,h4⟩:=hQ;refine⟨e',?_,by simp_all⟩;apply qji;have he:e=0:=h2.2 hf;subst he;simp only[q0c h,cF,h1,bS,q0g,h3]|false=>
   have he:e≠0:=fun h0=>by simp_all
   refine⟨e,?_,by grind⟩;apply qji;simp only[q0c h,cF,h1,bS,q1c he,cT]
 |y::suf,i,h=>by
  have hlt:=q09 h;by_cases hy:inR y=true;·have hy':=hy;simp only[inR,aT,dT]at hy';obtain⟨e,h1,h2⟩:=qxq xs hl thr inner Q hQ suf (i+1) (q01 h);refine⟨e,?_,by simp_all⟩;apply qji;simp only[q05 h,cT,q02 h,q00 hy'.1,q0v hy'.2,cF,q03 (show i<4611686018427387904 by omega),h1]
  .have hn:¬(0<=y/\y<10):=by simpa[inR]using hy
   refine⟨5,?_,by grind⟩;apply qji;simp only[q05 h,cT,q02 h];by_cases h0:y<0;·simp only[q04 h0,cT]
   .simp only[q00 (Int.not_lt.1 h0),cF,q0s (show 10<=y by omega),cT]
theorem y73:∀t:Trust,Small t->∃e,z57 t=some e/\(e=0↔good t=true):=by
 apply Trust.ind;intro t ih ht;have hn:=ht.nodes;have hi:=ht.inner;have hs:size t<1152921504606846976:=ht;rw[q2a]at hs;have l2:∀(suf:LT)(i:Nat),t.Inner.drop i=suf->∃e,z1p t.Inner ((t.Inner.length:Nat):Int) (i:Int) t.Threshold t.Nodes t.Inner=some e/\(e=0↔goods suf=true):=by intro suf;induction suf with|nil=>intro i h;refine⟨0,?_,by simp[goods]⟩;apply qq8;simp only[q0c h,cF]|cons y suf ihs=>
   intro i h;have hlt:=q09 h;have hy:y∈t.Inner:=List.mem_of_mem_drop (by rw[h];simp);obtain⟨e,h1,h2⟩:=ih y hy (ht.mem hy);by_cases he:e=0;·obtain⟨e',h3,h4⟩:=ihs (i+1) (q01 h);refine⟨e',?_,by rw[h4];simp[goods,h2.1 he]⟩;apply qq8;simp only[q05 h,cT,q02 h,h1,bS,he,q0g,cF,q03 (show i<4611686018427387904 by omega),h3]
   .refine⟨e,?_,?_⟩;·apply qq8;simp only[q05 h,cT,q02 h,h1,bS,q1c he]
    .have:good y=false:=by simp_all
     simp[goods,this,he]
 rw[qg9];by_cases h1:1<=t.Threshold
 .by_cases h2:t.Threshold<=((t.Nodes.length+t.Inner.length:Nat):Int)
  .obtain⟨e,h3,h4⟩:=qxq t.Nodes (by omega) t.Threshold t.Inner (fun e=>e=0↔goods t.Inner=true) (l2 t.Inner 0 rfl) t.Nodes 0 rfl;refine⟨e,?_,?_⟩;·apply qxb;rw[q00 h1,q22 (by omega) (by omega),q00 (by omega)];simp only[cF];exact h3
   grind
  .refine⟨4,?_,by rw[decide_eq_false h2];simp⟩;apply qxb;rw[q00 h1,q22 (by omega) (by omega),q04 (by omega)];rfl
 .refine⟨4,?_,by simp[h1]⟩;apply qxb;rw[q04 (by omega)];rfl
def valid(t:Trust):Bool:=decide (depth t<=4)&&(decide (size t<=200)&&good t)
theorem y6p(t:Trust)(ht:Small t):∃e,z1a t=some e/\(e=0↔valid t=true):=by
 have hs:size t<1152921504606846976:=ht;by_cases h1:depth t<=4
 .by_cases h2:size t<=200;·obtain⟨e,h3,h4⟩:=y73 t ht;refine⟨e,?_,by simp[valid,h1,h2,h4]⟩;apply qxt;rw[qbu t ht];simp only[bS];rw[q00 (by omega),qgh t ht];simp only[cF,bS];rw[q00 (by omega)];simp_all
  .refine⟨3,?_,by simp[valid,h2]⟩;apply qxt;rw[qbu t ht];simp only[bS];rw[q00 (by omega),qgh t ht];simp only[cF,bS];rw[q04 (by omega)];rfl
 .refine⟨3,?_,by simp[valid,h1]⟩;apply qxt;rw[qbu t ht];simp only[bS];rw[q04 (by omega)];rfl
variable {i m n : Int} {l : LI}
def q0n(l:LI)(i:Int):Prop:=0<=i/\i<=400/\l.length<=400
theorem yfn(t:LI):∃l,z9z t=some ((),l,0)/\q0n l 0:=by
 by_cases h:400<((t.length:Nat):Int);·refine⟨List.drop 0 (List.take 400 t),?_,by simp[q0n];omega⟩;apply ya7;rw[if_pos h,qc5 (by decide) (by omega)];rfl
 .refine⟨List.drop 0 (List.take t.length t),?_,by simp[q0n];omega⟩;apply ya7;rw[if_neg h,qc5 (by omega) (by omega)];rfl
theorem N_ok(hn:0<n)(hn2:n<4611686018427387904)(h:q0n l i):∃v j,z0c n l i=some (v,l,j)/\0<=v/\v<n/\q0n l j:=by
 obtain⟨h0,h1,h2⟩:=h;by_cases hl:((l.length:Nat):Int)<=i;·refine⟨0,i,?_,by omega,hn,h0,h1,h2⟩;apply y30;simp only[q0s hl,cT]
 .have hi:i.toNat<l.length:=by omega
  have hg:l[i.toNat]?=some l[i.toNat]:=List.getElem?_eq_getElem hi;generalize l[i.toNat]=y at hg;have b1:=Int.tmod_lt_of_pos y hn;have b2:=Int.lt_tmod_of_pos y hn;have hne:n≠0:=by omega
  have hj:addI .i64 i 1=i+1:=q22 (by omega) (by omega);by_cases hr:y.tmod n<0;·refine⟨y.tmod n+n,i+1,?_,by omega,by omega,by omega,by omega,h2⟩;apply y30;simp only[q0v (Int.not_le.1 hl),cF,q0m h0 hg,q0i hne,hj];rw[show remI .i64 y n=y.tmod n from rfl,q04 hr,q22 (by omega) (by omega)];rfl
  .refine⟨y.tmod n,i+1,?_,by omega,by omega,by omega,by omega,h2⟩;apply y30;simp only[q0v (Int.not_le.1 hl),cF,q0m h0 hg,q0i hne,hj];rw[show remI .i64 y n=y.tmod n from rfl,q00 (by omega)];rfl
theorem q68{a b:Int}(hab:a<=b)(ha:-1000000<=a)(hb:b<=1000000)(h:q0n l i):∃v j,z0w a b l i=some (v,l,j)/\a<=v/\v<=b/\q0n l j:=by obtain⟨v,j,h1,h2,h3,h4⟩:=N_ok (n:=b-a+1) (by omega) (by omega) h;refine⟨a+v,j,?_,by omega,by omega,h4⟩;apply yi5;rw[q46 (by omega) (by omega),q22 (by omega) (by omega),h1];simp only[bS];rw[q22 (by omega) (by omega)]
theorem q4l{ps:LI}(hp:0<ps.length)(hp2:ps.length<1000000)(h:q0n l i):∃v j,z0k ps l i=some (v,l,j)/\v∈ps/\q0n l j:=by
 obtain⟨v,j,h1,h2,h3,h4⟩:=N_ok (n:=((ps.length:Nat):Int)) (by omega) (by omega) h;have hi:v.toNat<ps.length:=by omega
 refine⟨ps[v.toNat],j,?_,List.getElem_mem hi,h4⟩;apply yfu;rw[h1];simp only[bS,q0m h2 (List.getElem?_eq_getElem hi)]
theorem qw7{l:LI}(B:Int):∀(k:Nat)(a:LI)(c:Int)(i:Int),c.toNat=k->c<((a.length:Nat):Int)->a.length<=1000->(∀x∈a,0<=x/\x<B)->q0n l i->∃p j,z4s a c l i=some (p,l,j)/\p.length=a.length/\(∀x∈p,0<=x/\x<B)/\q0n l j
 |0,a,c,i,hk,hc,ha,hm,h=>by refine⟨a,i,?_,rfl,hm,h⟩;apply ybc;simp only[q00 (show c<=0 by omega),cF]|k+1,a,c,i,hk,hc,ha,hm,h=>by
  obtain⟨v,j,h1,h2,h3,h4⟩:=N_ok (n:=c+1) (by omega) (by omega) h;have hv:v.toNat<a.length:=by omega
  have hcl:c.toNat<a.length:=by omega
  have g1:a[v.toNat]?=some a[v.toNat]:=List.getElem?_eq_getElem hv;have g2:a[c.toNat]?=some a[c.toNat]:=List.getElem?_eq_getElem hcl;have m1:=hm _ (List.getElem_mem hv);have m2:=hm _ (List.getElem_mem hcl);generalize a[v.toNat]=y1 at g1 m1;generalize a[c.toNat]=y2 at g2 m2;have hl1:v.toNat<(List.set a c.toNat y1).length:=by simpa using hv
  have g3:(List.set a c.toNat y1)[v.toNat]?=some (List.set a c.toNat y1)[v.toNat]:=List.getElem?_eq_getElem hl1;generalize(List.set a c.toNat y1)[v.toNat]=y3 at g3;have hm':∀x∈List.set (List.set a c.toNat y1) v.toNat y2,0<=x/\x<B:=by
   intro x hx;rcases List.mem_or_eq_of_mem_set hx with hx|rfl
   .rcases List.mem_or_eq_of_mem_set hx with hx|rfl;·exact hm x hx
    .exact m1
   .exact m2
  obtain⟨p,j',h5,h6,h7,h8⟩:=qw7 B k (List.set (List.set a c.toNat y1) v.toNat y2) (c-1) j (by omega) (by simp;omega) (by simpa using ha) hm' h4;refine⟨p,j',?_,by simpa using h6,h7,h8⟩;apply ybc;rw[q04 (by omega),q22 (by omega) (by omega),h1,q46 (by omega) (by omega)];simp only[cT,bS,q0m h2 g1,q0m (show 0<=c by omega) g2,q2p g1,q2p g2,q0m h2 g3,q2p g3];omega
theorem qx1{l:LI}(n:Int)(hn:n<=1000):∀(k:Nat)(a:LI)(i:Int),n-((a.length:Nat):Int)=((k:Nat):Int)->(∀x∈a,0<=x/\x<n)->q0n l i->∃p j,z4o n a ((a.length:Nat):Int) l i=some (p,l,j)/\((p.length:Nat):Int)=n/\(∀x∈p,0<=x/\x<n)/\q0n l j
 |0,a,i,hk,hm,h=>by
  obtain⟨p,j,h1,h2,h3,h4⟩:=qw7 n (n-1).toNat a (n-1) i rfl (by omega) (by omega) hm h;refine⟨p,j,?_,by omega,h3,h4⟩;apply yb4;rw[q00 (by omega),q46 (by omega) (by omega)]
  simp_all|k+1,a,i,hk,hm,h=>by obtain⟨p,j,h1,h2,h3,h4⟩:=qx1 n hn k (a++[((a.length:Nat):Int)]) i (by simp;omega) (by
   intro x hx;rcases List.mem_append.1 hx with hx|hx;·exact hm x hx
   .rw[List.mem_singleton]at hx;subst hx;omega) h;refine⟨p,j,?_,h2,h3,h4⟩;apply yb4;rw[q04 (by omega),q06 (by simp[q07];omega),q03 (by omega)];simp_all
theorem qxr(h0:0<=n)(hn:n<=1000)(h:q0n l i):∃p j,z90 n l i=some (p,l,j)/\((p.length:Nat):Int)=n/\(∀x∈p,0<=x/\x<n)/\q0n l j:=by obtain⟨p,j,h1,h2,h3,h4⟩:=qx1 n hn n.toNat [] i (by grind) (by simp) h;exact⟨p,j,ye8 _ _ _ _ h1,h2,h3,h4⟩
theorem q7m(a b:LT):sizes (a++b)=sizes a+sizes b:=by induction a with|nil=>simp[sizes]|cons x r ih=>simp only[List.cons_append,sizes,ih];omega
theorem qoy(a1 a3:Int)(xs:LI)(hl:xs.length<=10)(a13:LI)(a15 a17:Int)(a19:LI)(a21:LT)(a23:Int)(a27:LT):∀(suf:LI)(i:Nat)(acc:LI),xs.drop i=suf->i<=xs.length->acc.length<=i->Le (z6b a1 a3 xs ((xs.length:Nat):Int) ((xs.length:Nat):Int) a13 a15 a17 a19 a21 a23 (acc++suf) a27) (z6b a1 a3 xs ((xs.length:Nat):Int) (i:Int) a13 a15 a17 a19 a21 a23 acc a27)
 |[],i,acc,h,hi,ha=>by
  have h1:xs.length<=i:=List.drop_eq_nil_iff.1 h;have:i=xs.length:=by omega
  subst this;rw[List.append_nil];exact Le.refl _|y::suf,i,acc,h,hi,ha=>fun r hr=>by have hlt:=q09 h;apply y1v;simp only[q05 h,cT,q02 h,q03 (show i<4611686018427387904 by omega)];rw[q06 (by simp[q07];omega)];refine qoy a1 a3 xs hl a13 a15 a17 a19 a21 a23 a27 suf (i+1) (acc++[y]) (q01 h) (by omega) (by simp;omega) r ?_;simp_all
def bound:Nat->Nat|0=>8|d+1=>8+3*bound d
theorem qwi:∀d,d<=bound d|0=>by omega|d+1=>by have:=qwi d;simp only[bound];omega
theorem q8p(thr:Int)(a:LI)(b:LT):size (Trust.mk thr a b)=a.length+b.length+sizes b:=by rfl
mutual
def below (m : Int) : Trust -> Bool
 | ⟨_, nodes, inner⟩ => nodes.all (fun k => decide (0 <= k) && decide (k < m)) && q6z m inner
def q6z (m : Int) : LT -> Bool
 | [] => true
 | x :: r => below m x && q6z m r
end
theorem y6o(m:Int)(t:Trust):below m t=(t.Nodes.all (fun k=>decide (0<=k)&&decide (k<m))&&q6z m t.Inner):=by cases t;rfl
theorem qox(m:Int)(a b:LT):q6z m (a++b)=(q6z m a&&q6z m b):=by induction a with|nil=>rfl|cons x r ih=>simp only[List.cons_append,q6z,ih,Bool.and_assoc]
theorem y5m(h:∀x∈l,0<=x/\x<m):l.all (fun k=>decide (0<=k)&&decide (k<m))=true:=by simp_all
theorem q8v{thr:Int}{a:LI}{b:LT}(ha:∀x∈a,0<=x/\x<m)(hb:q6z m b=true):below m ⟨thr,a,b⟩=true:=by simp only[below,y5m ha,hb,Bool.and_self]
theorem qxj{n:Int}{l:LI}{d:Nat}(hd:bound d<1000000)(IH:∀i,q0n l i->∃t j,z9d n (d+1:Nat) l i=some (t,l,j)/\(size t<=bound d/\below n t=true)/\q0n l j)(a13:Int)(a15:LI)(a17:LT)(a19:Int)(a21:LI)(h5:1<=a21.length)(h6:a21.length<=5)(hN:∀x∈a21,0<=x/\x<n):∀(k:Nat)(i:Int)(acc:LT),acc.length+k<=3->(sizes acc<=acc.length*bound d/\q6z n acc=true)->q0n l i->∃t j,z6e n ((d+2:Nat):Int) (k:Int) l i a13 a15 a17 a19 a21 acc=some (t,l,j)/\(size t<=bound (d+1)/\below n t=true)/\q0n l j
 |0,i,acc,ha,hs,h=>by
  obtain⟨hs,hbl⟩:=hs;have hb:sizes acc<=3*bound d:=Nat.le_trans hs (Nat.mul_le_mul_right _ (by omega));have fin:∀(q:LI)(i':Int),q.length<=5->1<=q.length+acc.length->(∀x∈q,0<=x/\x<n)->q0n l i'->∃v j,z0w 1 (addI .i64 ((q.length:Nat):Int) ((acc.length:Nat):Int)) l i'=some (v,l,j)/\(size (Trust.mk v q acc)<=bound (d+1)/\below n (Trust.mk v q acc)=true)/\q0n l j:=by intro q i' hq hq1 hqn h';rw[q22 (by omega) (by omega)];obtain⟨v,j,g1,g2,g3,g4⟩:=q68 (a:=1) (b:=((q.length:Nat):Int)+((acc.length:Nat):Int)) (by omega) (by omega) (by omega) h';exact⟨v,j,g1,⟨by rw[q8p];simp only[bound];omega,q8v hqn hbl⟩,g4⟩
  by_cases h0:acc.length=0;·obtain⟨v,j,g1,g2,g3⟩:=fin a21 i h6 (by omega) hN h;refine⟨_,j,?_,g2,g3⟩;apply qwh;rw[q00 (show((0:Nat):Int)<=0 by omega),q00 (show((acc.length:Nat):Int)<=0 by omega),g1];rfl
  .obtain⟨u,j0,g1,g2,g3,g4⟩:=N_ok (n:=3) (by decide) (by decide) h;by_cases hu:u=0;·obtain⟨v,j,g5,g6,g7⟩:=fin [] j0 (by simp) (by simp;omega) (by simp) g4;refine⟨_,j,?_,g6,g7⟩;apply qwh;rw[q00 (show((0:Nat):Int)<=0 by omega),q04 (show 0<((acc.length:Nat):Int)by omega),g1];simp only[cF,cT,bS,hu,q0e];simp_all
   .obtain⟨v,j,g5,g6,g7⟩:=fin a21 j0 h6 (by omega) hN g4;refine⟨_,j,?_,g6,g7⟩;apply qwh;rw[q00 (show((0:Nat):Int)<=0 by omega),q04 (show 0<((acc.length:Nat):Int)by omega),g1];simp only[cF,cT,bS,q0d hu];simp_all|k+1,i,acc,ha,hs,h=>by obtain⟨x,j0,g1,g2,g3⟩:=IH i h;obtain⟨t,j,g4,g5,g6⟩:=qxj hd IH a13 a15 a17 a19 a21 h5 h6 hN k j0 (acc++[x]) (by simp;omega) ⟨by rw[q7m];simp only[sizes,List.length_append,List.length_cons,List.length_nil,Nat.add_mul];have:=hs.1;have:=g2.1;omega,by simp only[qox,q6z,hs.2,g2.2,Bool.and_self]⟩ g3;refine⟨t,j,?_,g5,g6⟩;apply qwh;have hdd:=qwi d;rw[q04 (by omega),q46 (by omega) (by omega),q46 (by omega) (by omega)];rw[show((d+2:Nat):Int)-1=((d+1:Nat):Int)by omega,g1];simp only[cT,bS,Trust.eta];rw[q06 (by simp[q07];omega)];simp_all
theorem y64(h1:1<=n)(h2:n<=1000):∀(d:Nat),bound d<1000000->∀i,q0n l i->∃t j,z9d n (d+1:Nat) l i=some (t,l,j)/\(size t<=bound d/\below n t=true)/\q0n l j:=by intro d;induction d with|zero=>
  intro _ i h;obtain⟨p,j0,g1,g2,g3,g4⟩:=qxr (by omega) h2 h;obtain⟨b,j1,g5,g6,g7,g8⟩:=q68 (a:=1) (b:=if 5<n then 5 else n) (by split<;>omega) (by omega) (by split<;>omega) g4;have hb5:b<=5:=by split at g7<;>omega
  have hbn:b<=n:=by split at g7<;>omega
  have hxs:(List.take b.toNat p).length=b.toNat:=by simp_all
  obtain⟨v,j,g9,g10,g11,g12⟩:=q68 (a:=1) (b:=((b.toNat:Nat):Int)) (by omega) (by omega) (by omega) g8;refine⟨Trust.mk v (List.take b.toNat p) [],j,?_,⟨by rw[q8p,hxs];simp[sizes,bound];omega,q8v (fun x hx=>g3 x (List.mem_of_mem_take hx)) rfl⟩,g12⟩;apply yaj;rw[g1];simp only[bS];rw[g5];simp only[bS];rw[qc5 (by omega) (by omega)];simp only[List.drop_zero];refine qoy n _ _ (by omega) l j1 0 [] [] 0 [] _ 0 [] rfl (Nat.zero_le _) (Nat.zero_le _) _ ?_;rw[List.nil_append,List.drop_zero];apply y1v;rw[q00 (Int.le_refl _),q00 (by decide)];simp only[cF];rw[hxs,show addI .i64 ((b.toNat:Nat):Int) (([]:LT).length:Nat)=((b.toNat:Nat):Int)by rw[q22 (by omega) (by grind)];simp,g9];rfl|succ d ihd=>
  intro hbd i h;have hbd':bound d<1000000:=by simp only[bound]at hbd;omega
  obtain⟨p,j0,g1,g2,g3,g4⟩:=qxr (by omega) h2 h;obtain⟨b,j1,g5,g6,g7,g8⟩:=q68 (a:=1) (b:=if 5<n then 5 else n) (by split<;>omega) (by omega) (by split<;>omega) g4;have hb5:b<=5:=by split at g7<;>omega
  have hbn:b<=n:=by split at g7<;>omega
  have hxs:(List.take b.toNat p).length=b.toNat:=by simp;omega
  obtain⟨k,j2,g9,g10,g11⟩:=q4l (ps:=[0,0,1,1,2,3]) (by decide) (by decide) g8;have hk:0<=k/\k<=3:=by simp only[List.mem_cons,List.not_mem_nil,or_false]at g10;omega
  obtain⟨kn,rfl⟩:=Int.eq_ofNat_of_zero_le hk.1;obtain⟨t,j,g12,g13,g14⟩:=qxj hbd' (ihd hbd') 0 [] [] 0 (List.take b.toNat p) (by omega) (by omega) (fun x hx=>g3 x (List.mem_of_mem_take hx)) kn j2 [] (by simp;omega) ⟨by simp[sizes],rfl⟩ g11;refine⟨t,j,?_,g13,g14⟩;apply yaj;rw[g1];simp only[bS];rw[g5];simp only[bS];rw[qc5 (by omega) (by omega)];simp only[List.drop_zero];refine qoy n _ _ (by omega) l j1 0 [] [] 0 [] _ 0 [] rfl (Nat.zero_le _) (Nat.zero_le _) _ ?_;rw[List.nil_append,List.drop_zero];apply y1v;rw[q00 (Int.le_refl _),q04 (show(1:Int)<((d+1+1:Nat):Int)by omega),g9];grind
theorem qyg(k:Int):has 0 k=false:=by simp[has]
theorem y56{v:Int}(h:inR v=true):valid (Trust.mk 1 [v] [])=true:=by simp[valid,depth,q50,size,sizes,good,goods,fresh,h,qyg]
theorem Small.of_size{t:Trust}{b:Nat}(h:size t<=b)(hb:b<1000000):Small t:=by unfold Small;omega
theorem qy2(h1:1<=n)(h2:n<=10)(d:Nat)(hd:bound d<1000000)(h:q0n l i):∃t j,z9c n (d+1:Nat) l i=some (t,l,j)/\(valid t=true/\below n t=true)/\Small t/\q0n l j:=by
 obtain⟨t,j,g1,g2,g3⟩:=y64 h1 (by omega) d hd i h;have hsm:=Small.of_size g2.1 hd;obtain⟨e,g4,g5⟩:=y6p t hsm;by_cases he:e=0;·refine⟨t,j,?_,⟨g5.1 he,g2.2⟩,hsm,g3⟩;apply y84;rw[g1];simp only[bS];rw[g4];simp only[bS,he,q0g,cF,Trust.eta]
 .obtain⟨v,j',g6,g7,g8,g9⟩:=N_ok (n:=n) (by omega) (by omega) g3;have hv:inR v=true:=by simp only[inR,aT,dT];omega
  refine⟨Trust.mk 1 [v] [],j',?_,⟨y56 hv,q8v (by simp;omega) rfl⟩,Small.of_size (b:=1) (by simp[size,sizes]) (by decide),g9⟩;apply y84;rw[g1];simp only[bS];rw[g4];simp only[bS,q1c he,cT];simp_all
variable {i k m thr : Int} {l : LI}
theorem qkt:∀(l:LI)(s:Nat),fresh s l=true↔(∀k∈l,inR k=true/\has s k=false)/\l.Nodup
 |[],s=>by simp[fresh]|k::r,s=>by
  simp only[fresh,aT,Bool.not_eq_true',List.mem_cons,List.nodup_cons];constructor
  .rintro⟨h1,h2,h3⟩;obtain⟨h4,h5⟩:=(qkt r _).1 h3;refine⟨fun j hj=>?_,fun hk=>?_,h5⟩
   .rcases hj with rfl|hj;·grind
    .obtain⟨h6,h7⟩:=h4 j hj;rw[y1w h1]at h7;grind
   .have:=(h4 k hk).2;rw[y1w h1]at this;grind
  .rintro⟨h1,h2,h3⟩;obtain⟨h4,h5⟩:=h1 k (.inl rfl);refine⟨h4,h5,(qkt r _).2 ⟨fun j hj=>?_,h3⟩⟩;obtain⟨h6,h7⟩:=h1 j (.inr hj);refine⟨h6,?_⟩;rw[y1w h4,h7];grind
theorem qrh(hm:m<=10)(h:0<=k/\k<m):inR k=true:=by simp only[inR,aT,dT];omega
theorem y5b(hm:m<=10)(h:∀k∈l,0<=k/\k<m)(hs:l.Pairwise (·<·)):fresh 0 l=true:=(qkt l 0).2 ⟨fun k hk=>⟨qrh hm (h k hk),qyg k⟩,hs.imp (fun h=>by omega)⟩
theorem ybt(hm:m<=10)(h:∀k∈l,0<=k/\k<m):l.all inR=true:=by rw[List.all_eq_true];exact fun k hk=>qrh hm (h k hk)
theorem qyf(h:l.Pairwise (·<·))(hk:∀x∈l,x<k):(l++[k]).Pairwise (·<·):=by grind
theorem qdk(h0:0<=m):∀{l:LI},(∀k∈l,0<=k/\k<m)->l.Pairwise (·<·)->(l.length:Int)<=m:=by
 intro l h hs;have key:∀(l:LI)(b:Int),(∀k∈l,b<=k/\k<m)->l.Pairwise (·<·)->b<=m->(l.length:Int)<=m-b:=by intro l;induction l with|nil=>simp|cons x r ih=>intro b h hs hb;rw[List.pairwise_cons]at hs;have hx:=h x (by simp);have:=ih (x+1) (fun k hk=>⟨by grind,(h k (by grind)).2⟩) hs.2 (by omega);grind
 have:=key l 0 h hs h0;omega
theorem qvw{t:Trust}(h1:depth t<=4)(h2:size t<=200)(h3:good t=true):valid t=true:=by simp only[valid,aT,dT];grind
theorem qfy(hm0:0<=m)(hm:m<=10)(h:∀k∈l,0<=k/\k<m)(hs:l.Pairwise (·<·))(h1:1<=thr)(h2:thr<=(l.length:Int)):valid ⟨thr,l,[]⟩=true:=by have hl:=qdk hm0 h hs;refine qvw (by simp[depth,q50]) (by rw[q8p];simp[sizes];omega) ?_;rw[qg9];simp only[aT,dT,y5b hm h hs,ybt hm h,goods,and_true];omega
def Good(m:Int)(t:Trust):Prop:=valid t=true/\below m t=true
theorem qtq{m:Int}(hm:1<=m)(hm2:m<=10){l:LI}(a11:Int)(a13:LI)(a15:LT)(a17:Int):∀(n:Nat)(c i:Int)(acc:LI),m-c=(n:Int)->0<=c->(∀k∈acc,0<=k/\k<c)->acc.Pairwise (·<·)->q0n l i->∃t j,z6c m c l i a11 a13 a15 a17 acc []=some (t,l,j)/\Good m t/\q0n l j
 |0,c,i,acc,hn,h0,hacc,hs,h=>by
  obtain⟨v,j,g1,g2,g3⟩:=q4l (ps:=[0,0,0,1,-1]) (by decide) (by decide) h;have hv:-1<=v/\v<=1:=by grind
  have hacc':∀k∈acc,0<=k/\k<m:=fun k hk=>⟨(hacc k hk).1,by grind⟩;let clip(e b:Int):Int:=if(if e>1 then e else 1)<b then(if e>1 then e else 1)else b;have clip1:∀e b:Int,1<=b->1<=clip e b/\clip e b<=b:=by grind
  by_cases hz:acc.length=0
  .have e:(addI .i64 (quoI .i64 (addI .i64 (mulI .i64 2 ((List.length [(0:Int)]:Nat):Int)) 2) 3) v)=1+v:=by rw[show quoI .i64 (addI .i64 (mulI .i64 2 ((List.length [(0:Int)]:Nat):Int)) 2) 3=1 from by rfl,q22 (by omega) (by omega)]
   refine⟨⟨clip (1+v) 1,[0],[]⟩,j,?_,?_,g3⟩;·apply qwy;rw[q00 (by omega),hz];simp only[cF,cT,Int.natCast_zero,q0e];rw[g1];simp only[bS,e];rfl
   .obtain⟨c1,c2⟩:=clip1 (1+v) 1 (by omega);exact⟨qfy (m:=m) (by omega) hm2 (by grind) (by simp) c1 (by omega),q8v (by grind) rfl⟩
  .have hl:=qdk (by omega) hacc' hs;have hd:(2*(acc.length:Int)+2).tdiv 3=(2*(acc.length:Int)+2)/3:=Int.tdiv_eq_ediv_of_nonneg (by omega);have e:(addI .i64 (quoI .i64 (addI .i64 (mulI .i64 2 ((acc.length:Nat):Int)) 2) 3) v)=(2*(acc.length:Int)+2)/3+v:=by
    have e1:mulI .i64 2 ((acc.length:Nat):Int)=2*(acc.length:Int):=wrap64 (by omega) (by omega);have e2:quoI .i64 (2*(acc.length:Int)+2) 3=(2*(acc.length:Int)+2)/3:=by rw[<-hd];exact wrap64 (by omega) (by omega)
    have e3:addI .i64 (2*(acc.length:Int)) 2=2*(acc.length:Int)+2:=q22 (by omega) (by omega);rw[e1,e3,e2,q22 (by omega) (by omega)]
   refine⟨⟨clip ((2*(acc.length:Int)+2)/3+v) acc.length,acc,[]⟩,j,?_,?_,g3⟩;·apply qwy;rw[q00 (by omega),q0d (by omega)];simp only[cF];rw[g1];simp only[bS,e];rfl
   .obtain⟨c1,c2⟩:=clip1 ((2*(acc.length:Int)+2)/3+v) acc.length (by omega);exact⟨qfy (m:=m) (by omega) hm2 hacc' hs c1 c2,q8v hacc' rfl⟩|n+1,c,i,acc,hn,h0,hacc,hs,h=>by
  obtain⟨v,j,g1,g2,g3,g4⟩:=N_ok (n:=10) (by decide) (by decide) h;have hl:=qdk h0 hacc hs;by_cases hv:v<9;·obtain⟨t,j',g5,g6,g7⟩:=qtq hm hm2 a11 a13 a15 a17 n (c+1) j (acc++[c]) (by omega) (by omega) (fun k hk=>by grind) (qyf hs fun x hx=>(hacc x hx).2) g4;refine⟨t,j',?_,g6,g7⟩;apply qwy;rw[q04 (by omega),g1];simp only[cT,bS,q04 hv];rw[q06 (by simp[q07];omega),q22 (by omega) (by omega)];omega
  .obtain⟨t,j',g5,g6,g7⟩:=qtq hm hm2 a11 a13 a15 a17 n (c+1) j acc (by omega) (by omega) (fun k hk=>by grind) hs g4;refine⟨t,j',?_,g6,g7⟩;apply qwy;rw[q04 (by omega),g1];simp only[cT,cF,bS,q00 (show 9<=v by omega)];rw[q22 (by omega) (by omega)];omega
theorem ycl(hm:1<=m)(hm2:m<=10)(h:q0n l i):∃t j,za0 m l i=some (t,l,j)/\Good m t/\q0n l j:=by obtain⟨t,j,g1,g2,g3⟩:=qtq hm hm2 0 [] [] 0 m.toNat 0 i [] (by omega) (by omega) (by simp) (by simp) h;exact⟨t,j,ydr _ _ _ _ g1,g2,g3⟩
def Flat(m:Int)(x:Trust):Prop:=x.Inner=[]/\(∀k∈x.Nodes,0<=k/\k<m)/\x.Nodes.Pairwise (·<·)/\1<=x.Threshold/\x.Threshold<=(x.Nodes.length:Int)
theorem Flat.good(hm0:0<=m)(hm:m<=10){x:Trust}(h:Flat m x):Good m x:=by obtain⟨thr,nodes,inner⟩:=x;obtain⟨rfl,h1,h2,h3,h4⟩:=h;exact⟨qfy hm0 hm h1 h2 h3 h4,q8v h1 rfl⟩
theorem qz1(hm0:0<=m)(hm:m<=10){l:LT}(h:∀x∈l,Flat m x)(hl:l.length<=3)(h1:1<=thr)(h2:thr<=(l.length:Int)):Good m ⟨thr,[],l⟩:=by
 have hb:q6z m l=true/\goods l=true/\sizes l<=l.length*10/\q50 l<=1:=by clear hl h2;induction l with|nil=>simp[q6z,goods,sizes,q50]|cons x r ih=>
   obtain⟨i1,i2,i3,i4⟩:=ih (fun y hy=>h y (by grind));have hx:=h x (by simp);obtain⟨g1,g2⟩:=hx.good hm0 hm;obtain⟨e1,e2,e3,e4,e5⟩:=hx;have hlen:=qdk hm0 e2 e3;simp only[valid,aT,dT]at g1;have hsz:size x<=10:=by rw[q2a,e1];simp only[List.length_nil,sizes];omega
   have hdp:depth x=1:=by rw[qe0,e1];rfl
   refine⟨by simp only[q6z,i1,g2,Bool.and_self],by simp only[goods,i2,g1.2.2,Bool.and_self],by simp only[sizes,List.length_cons];omega,by simp only[q50];omega⟩
 obtain⟨b1,b2,b3,b4⟩:=hb;refine⟨qvw (by rw[qe0];grind) (by rw[q8p];grind) ?_,q8v (by simp) b1⟩;rw[qg9];simp only[aT,dT,b2,fresh,List.all_nil,and_true];omega
theorem qwj{m:Int}(hm:1<=m)(hm2:m<=10){l:LI}(a3:Int)(a6:LT)(a8 a17:Int)(a19:LI)(a21:LT)(i:Int):∀(n:Nat)(c:Int)(nodes:LI),m+3-c<=(n:Int)->0<=c->(∀k∈nodes,0<=k/\k<m/\k<c)->nodes.Pairwise (·<·)->∃q:LI,(∀k∈q,0<=k/\k<m)/\q.Pairwise (·<·)/\(c<m->q≠[])/\(nodes≠[]->q≠[])/\Le (bif(ltB 0 ((List.length q:Nat):Int))then Option.bind (z0w 1 ((List.length q:Nat):Int) l i) fun x0=>capOk (List.length a6+List.length ([(Trust.mk x0.1 q [])]:List (Trust)))<|z2s m a3 (a6++([(Trust.mk x0.1 q [])]:List (Trust))) (addI .i64 a8 1) x0.2.1 x0.2.2 a17 a19 a21 else z2s m a3 a6 (addI .i64 a8 1) l i a17 a19 a21) (z7d m a3 a6 a8 c l i a17 a19 a21 1 nodes [])
 |0,c,nodes,hn,h0,hnd,hs=>by refine⟨nodes,fun k hk=>⟨(hnd k hk).1,(hnd k hk).2.1⟩,hs,fun hc=>by omega,id,fun r hr=>?_⟩;apply y5f;rw[q00 (by omega)];grind|n+1,c,nodes,hn,h0,hnd,hs=>by
  by_cases hc:c<m;·have hlen:=qdk (by omega) (fun k hk=>⟨(hnd k hk).1,(hnd k hk).2.1⟩) hs;obtain⟨q,q1,q2,_,q4,q5⟩:=qwj hm hm2 a3 a6 a8 a17 a19 a21 i n (c+3) (nodes++[c]) (by omega) (by omega) (fun k hk=>by grind) (qyf hs fun x hx=>(hnd x hx).2.2);refine⟨q,q1,q2,fun _=>q4 (by simp),fun _=>q4 (by simp),fun r hr=>?_⟩;apply y5f;rw[q04 hc,q06 (by simp[q07];omega),q22 (by omega) (by omega)];simp only[cT];exact q5 r hr
  .refine⟨nodes,fun k hk=>⟨(hnd k hk).1,(hnd k hk).2.1⟩,hs,fun hc'=>absurd hc' hc,id,fun r hr=>?_⟩;apply y5f;rw[q00 (by omega)];grind
theorem qpf{m:Int}(hm:1<=m)(hm2:m<=10){l:LI}(k:Nat):∀(n:Nat)(g i:Int)(acc:LT),3-g=(n:Int)->0<=g->acc.length<=g.toNat->(1<=g->acc≠[])->(∀x∈acc,Flat m x)->q0n l i->∃t j,z2s m (k:Int) acc g l i 0 [] []=some (t,l,j)/\Good m t/\q0n l j
 |0,g,i,acc,hn,h0,hl,hne,hf,h=>by
  have hne:=hne (by omega);have hpos:0<acc.length:=List.length_pos_iff.2 hne;obtain⟨v,j,g1,g2,g3,g4⟩:=N_ok (n:=4) (by decide) (by decide) h;by_cases hv:v=0
  .have hidx:remI .i64 (k:Int) ((acc.length:Nat):Int)=((k%acc.length:Nat):Int):=by rfl
   have hlt:k%acc.length<acc.length:=Nat.mod_lt _ hpos;refine⟨acc[k%acc.length],j,?_,(hf _ (List.getElem_mem hlt)).good (by omega) hm2,g4⟩;apply y52;rw[q00 (by omega),g1];simp only[cF,bS,hv,q0e,cT];rw[q0i (by omega),hidx,q0m (by omega) (show acc[((k%acc.length:Nat):Int).toNat]?=some acc[k%acc.length]by grind),q2p (show acc[((k%acc.length:Nat):Int).toNat]?=some acc[k%acc.length]by grind),Trust.eta]
  .have hg:g.toNat=3:=by omega
   obtain⟨b,j',b1,b2,b3,b4⟩:=q68 (a:=if(acc.length:Int)-1>1 then(acc.length:Int)-1 else 1) (b:=acc.length) (by split<;>omega) (by split<;>omega) (by omega) g4;refine⟨⟨b,[],acc⟩,j',?_,qz1 (by omega) hm2 hf (by omega) (by split at b2<;>omega) b3,b4⟩;apply y52;rw[q00 (by omega),g1];simp only[cF,bS,q0d hv];rw[q46 (by omega) (by omega),b1];rfl|n+1,g,i,acc,hn,h0,hl,hne,hf,h=>by
  have base:∀(q:LI),(∀k∈q,0<=k/\k<m)->q.Pairwise (·<·)->(g<m->q≠[])->∃t j,(bif(ltB 0 ((List.length q:Nat):Int))then Option.bind (z0w 1 ((List.length q:Nat):Int) l i) fun x0=>capOk (List.length acc+List.length ([(Trust.mk x0.1 q [])]:List (Trust)))<|z2s m (k:Int) (acc++([(Trust.mk x0.1 q [])]:List (Trust))) (addI .i64 g 1) x0.2.1 x0.2.2 0 [] []else z2s m (k:Int) acc (addI .i64 g 1) l i 0 [] [])=some (t,l,j)/\Good m t/\q0n l j:=by
   intro q hq hqs hqn;rw[q22 (by omega) (by omega)];by_cases hq0:q=[];·subst hq0;obtain⟨t,j,e1,e2,e3⟩:=qpf hm hm2 k n (g+1) i acc (by omega) (by omega) (by omega) (fun _=>hne (by grind)) hf h;exact⟨t,j,by rw[show ltB 0 ((List.length ([]:LI):Nat):Int)=false from rfl];grind,e2,e3⟩
   .have hlen:=qdk (by omega) hq hqs;have hpos:0<q.length:=List.length_pos_iff.2 hq0;obtain⟨b,j',b1,b2,b3,b4⟩:=q68 (a:=1) (b:=q.length) (by omega) (by omega) (by omega) h;obtain⟨t,j,e1,e2,e3⟩:=qpf hm hm2 k n (g+1) j' (acc++[⟨b,q,[]⟩]) (by omega) (by omega) (by grind) (fun _=>by simp) (fun x hx=>by
     rcases List.mem_append.1 hx with hx|hx;·simp_all
     .rw[List.mem_singleton]at hx;subst hx;exact⟨rfl,hq,hqs,b2,b3⟩) b4;refine⟨t,j,?_,e2,e3⟩;rw[q04 (by omega),b1];simp only[cT,bS];rw[q06 (by simp[q07];omega)];omega
  obtain⟨q,q1,q2,q3,_,q5⟩:=qwj (l:=l) hm hm2 (k:Int) acc g 0 [] [] i (m+3-g).toNat g [] (by omega) h0 (by simp) (by simp);obtain⟨t,j,e1,e2,e3⟩:=base q q1 q2 q3;refine⟨t,j,?_,e2,e3⟩;apply y52;rw[q04 (by omega)];simp only[cT];exact q5 _ e1
theorem y6k(hm:1<=m)(hm2:m<=10)(k:Nat)(h:q0n l i):∃t j,z9x m (k:Int) l i=some (t,l,j)/\Good m t/\q0n l j:=by obtain⟨t,j,g1,g2,g3⟩:=qpf hm hm2 k 3 0 i [] rfl (by omega) (by simp) (by omega) (by simp) h;exact⟨t,j,yi8 _ _ _ _ _ g1,g2,g3⟩
def blank:Trust:=⟨0,[],[]⟩
def MemOk(m:Int)(x:Member):Prop:=if x.Declared then Good m x.Trust else x.Trust=blank
structure ConfOk(n:Nat)(c:Config):Prop where
 pos:1<=c.Members.length
 le:c.Members.length<=n
 mem:∀x∈c.Members,MemOk (c.Members.length:Int) x
theorem qr3{m:Int}(hm:1<=m)(hm2:m<=10){l:LI}(kind:Int)(a13:LB):∀(n:Nat)(c:Nat)(i:Int)(acc:LB),m-c=(n:Int)->acc.length=c->(∀x∈acc,MemOk m x)->q0n l i->∃q j,z1d m kind (c:Int) l i a13 acc=some ((),(),l,j,q)/\((q.length:Nat):Int)=m/\(∀x∈q,MemOk m x)/\q0n l j
 |0,c,i,acc,hn,hl,hacc,h=>by refine⟨acc,i,?_,by omega,hacc,h⟩;apply qxi;rw[q00 (by omega)];rfl|n+1,c,i,acc,hn,hl,hacc,h=>by
  have rest:∀(x:Trust)(i1:Int),Good m x->q0n l i1->∃q j,(Option.bind (z0c 12 l i1) fun x1=>bif(eqB x1.1 11)then capOk (List.length acc+List.length ([(Member.mk false (Trust.mk 0 ([]:List (Int)) ([]:List (Trust))))]:List (Member)))<|z1d m kind (addI .i64 (c:Int) 1) x1.2.1 x1.2.2 a13 (acc++([(Member.mk false (Trust.mk 0 ([]:List (Int)) ([]:List (Trust))))]:List (Member)))else capOk (List.length acc+List.length ([(Member.mk true (Trust.mk x.Threshold x.Nodes x.Inner))]:List (Member)))<|z1d m kind (addI .i64 (c:Int) 1) x1.2.1 x1.2.2 a13 (acc++([(Member.mk true (Trust.mk x.Threshold x.Nodes x.Inner))]:List (Member))))=some ((),(),l,j,q)/\((q.length:Nat):Int)=m/\(∀x∈q,MemOk m x)/\q0n l j:=by
   intro x i1 hx h1;obtain⟨v,j,g1,g2,g3,g4⟩:=N_ok (n:=12) (by decide) (by decide) h1;have step:∀y:Member,MemOk m y->∃q j',z1d m kind (addI .i64 (c:Int) 1) l j a13 (acc++[y])=some ((),(),l,j',q)/\((q.length:Nat):Int)=m/\(∀x∈q,MemOk m x)/\q0n l j':=by intro y hy;rw[q03 (by omega)];refine qr3 hm hm2 kind a13 n (c+1) j (acc++[y]) (by omega) (by simp_all) (fun z hz=>?_) g4;grind
   by_cases hv:v=11;·obtain⟨q,j',e1,e2⟩:=step ⟨false,blank⟩ rfl;refine⟨q,j',?_,e2⟩;rw[g1];simp only[bS,hv,q0e,cT];rw[q06 (by simp[q07];omega)];exact e1
   .obtain⟨q,j',e1,e2⟩:=step ⟨true,x⟩ hx;refine⟨q,j',?_,e2⟩;rw[g1];simp only[bS,q0d hv,cF,Trust.eta];rw[q06 (by simp[q07];omega)];omega
  by_cases k0:kind=0;·obtain⟨x,j,g1,g2,_,g3⟩:=qy2 hm hm2 1 (by decide) h;obtain⟨q,j',e1,e2⟩:=rest x j g2 g3;refine⟨q,j',?_,e2⟩;apply qxi;rw[q04 (by omega),show eqB kind 0=true by rw[k0];rfl];grind
  .by_cases k1:kind=1;·obtain⟨x,j,g1,g2,g3⟩:=ycl hm hm2 h;obtain⟨q,j',e1,e2⟩:=rest x j g2 g3;refine⟨q,j',?_,e2⟩;apply qxi;rw[q04 (by omega),q0d k0,show eqB kind 1=true by rw[k1];rfl,g1];grind
   .obtain⟨x,j,g1,g2,g3⟩:=y6k hm hm2 c h;obtain⟨q,j',e1,e2⟩:=rest x j g2 g3;refine⟨q,j',?_,e2⟩;apply qxi;rw[q04 (by omega),q0d k0,q0d k1,g1];grind
theorem y40{n:Nat}(h1:1<=n)(h2:n<=10)(h:q0n l i):∃c j,z9u (n:Int) l i=some ((),(),l,j,c.Members)/\ConfOk n c/\q0n l j:=by obtain⟨m,j,a1,a2,a3,a4⟩:=q68 (a:=1) (b:=(n:Int)) (by omega) (by omega) (by omega) h;obtain⟨kind,j1,b1,_,_,b4⟩:=N_ok (n:=3) (by decide) (by decide) a4;obtain⟨q,j2,c1,c2,c3,c4⟩:=qr3 (l:=l) a2 (by omega) kind [] m.toNat 0 j1 [] (by omega) rfl (by simp) b4;refine⟨⟨q⟩,j2,?_,⟨by show 1<=q.length;omega,by show q.length<=n;omega,fun x hx=>by show MemOk ((q.length:Nat):Int) x;rw[c2];exact c3 x hx⟩,c4⟩;apply yf5;grind
variable {a b i k s z : Nat}
theorem y0o(s z:Nat)(k:Int):has (z|||s) k=(has z k||has s k):=by simp only[has,Nat.testBit_or];cases decide (0<=k)<;>cases decide (k<10)<;>simp
theorem y7o(h:∀k,has s k=true->has z k=true)(l:LI):cnt s l<=cnt z l:=List.countP_mono_left (fun k _ hk=>h k hk)
theorem y6q(h:∀k,has s k=true->has z k=true):∀t:Trust,sat s t=true->sat z t=true:=by
 apply Trust.ind;intro t ih hs;have hin:∀l:LT,(∀x∈l,sat s x=true->sat z x=true)->sats s l<=sats z l:=by intro l;induction l with|nil=>intro _;exact Nat.le_refl _|cons y r ihr=>intro h';have h1:=ihr (fun x hx=>h' x (by simp[hx]));have h2:=h' y (by simp);simp only[sats];grind
 rw[y4m,dT]at hs⊢;have:=hin t.Inner ih;have:=y7o h t.Nodes;omega
def usesN:LI->Nat|[]=>0|k::r=>(if inR k then bit k else 0)|||usesN r
mutual
def uses : Trust -> Nat
 | ⟨_, nodes, inner⟩ => usesN nodes ||| usesL inner
def usesL : LT -> Nat
 | [] => 0
 | x :: r => uses x ||| usesL r
end
theorem qoi(t:Trust):uses t=usesN t.Nodes|||usesL t.Inner:=by cases t;rfl
theorem qi9:∀l,usesN l<1024
 |[]=>by simp[usesN]|k::r=>by
  simp only[usesN];refine Nat.or_lt_two_pow (n:=10) ?_ (qi9 r);split;·exact q9q (by assumption)
  omega
theorem qoo:∀t:Trust,uses t<1024:=by
 apply Trust.ind;intro t ih;rw[qoi];refine Nat.or_lt_two_pow (n:=10) (qi9 _) ?_;have:∀l:LT,(∀x∈l,uses x<1024)->usesL l<2^10:=by intro l;induction l with|nil=>intro _;simp[usesL]|cons y r ihr=>intro h;simp only[usesL];exact Nat.or_lt_two_pow (h y (by simp)) (ihr (fun x hx=>h x (by simp[hx])))
 simp_all
theorem qu3(xs:LI)(hl:xs.length<1152921504606846976)(a9:Int)(a11:LI)(a13:LT):∀(suf:LI)(i c:Nat),xs.drop i=suf->c<1024->Le (z5t ((c|||usesN suf:Nat):Int) a13 ((a13.length:Nat):Int) 0 a9 a11 a13) (z3o (c:Int) xs ((xs.length:Nat):Int) (i:Int) a9 a11 a13)
 |[],i,c,h,hc=>fun r hr=>by apply y8i;simp only[q0c h,cF];simpa[usesN]using hr|y::suf,i,c,h,hc=>fun r hr=>by
  have hlt:=q09 h;apply y8i;simp only[q05 h,cT,q02 h,q03 (show i<4611686018427387904 by omega)];by_cases hy:inR y=true;·have hy':=hy;simp only[inR,aT,dT]at hy';have hb:=q9q hy;simp only[q0s hy'.1,q04 hy'.2,cT,q0i hy'.1,qgc hy,q3a (show c<2^62 by omega) (show bit y<2^62 by omega)];refine qu3 xs hl a9 a11 a13 suf (i+1) (c|||bit y) (q01 h) (Nat.or_lt_two_pow (n:=10) hc hb) r ?_;rw[<-hr];congr 2;simp only[usesN,hy,if_true,Nat.or_assoc]
  .have hn:¬(0<=y/\y<10):=by simpa[inR]using hy
   have hgo:z3o (c:Int) xs ((xs.length:Nat):Int) ((i+1:Nat):Int) a9 a11 a13=some r:=by refine qu3 xs hl a9 a11 a13 suf (i+1) c (q01 h) hc r ?_;rw[<-hr];congr 2;simp[usesN,hy]
   by_cases h0:0<=y;·simp only[q0s h0,q00 (show 10<=y by omega),cT,cF];omega
   .simp only[q0v (Int.not_le.1 h0),cF];omega
theorem qio:∀t:Trust,Small t->z36 t=some ((uses t:Nat):Int):=by
 apply Trust.ind;intro t ih ht;have hn:=ht.nodes;have hi:=ht.inner;have l2:∀(suf:LT)(i c:Nat),t.Inner.drop i=suf->c<1024->z5t (c:Int) t.Inner ((t.Inner.length:Nat):Int) (i:Int) t.Threshold t.Nodes t.Inner=some ((c|||usesL suf:Nat):Int):=by intro suf;induction suf with|nil=>intro i c h hc;apply yaf;simp only[q0c h,cF,usesL,Nat.or_zero]|cons y suf ihs=>intro i c h hc;have hlt:=q09 h;have hy:y∈t.Inner:=List.mem_of_mem_drop (by rw[h];simp);have hu:=qoo y;apply yaf;simp only[q05 h,cT,q02 h,ih y hy (ht.mem hy),bS,q03 (show i<4611686018427387904 by omega),q3a (show c<2^62 by omega) (show uses y<2^62 by omega)];rw[ihs (i+1) (c|||uses y) (q01 h) (Nat.or_lt_two_pow (n:=10) hc hu)];simp only[usesL,Nat.or_assoc]
 apply yif;refine qu3 t.Nodes (by omega) _ _ _ t.Nodes 0 0 rfl (by decide) _ ?_;rw[show(0:Int)=((0:Nat):Int)from rfl,l2 t.Inner 0 _ rfl (Nat.or_lt_two_pow (n:=10) (by decide) (qi9 _)),Nat.zero_or,qoi]
def q1z(s:Nat):Nat->Nat->List Nat|0,_=>[]|n+1,i=>if s.testBit i then i::q1z s n (i+1)else q1z s n (i+1)
def nodes(s:Nat):List Nat:=q1z s 10 0
theorem q8t{s k:Nat}:∀{n i:Nat},k∈q1z s n i↔s.testBit k=true/\i<=k/\k<i+n
 |0,i=>by simp only[q1z,List.not_mem_nil,false_iff];omega|n+1,i=>by
  simp only[q1z];split;·rename_i h;rw[List.mem_cons,q8t];grind
  .rename_i h;rw[q8t];grind
theorem qj8:k∈nodes s↔s.testBit k=true/\k<10:=by unfold nodes;rw[q8t];simp
theorem qf3(s:Nat):∀n i,(q1z s n i).length<=n|0,_=>by simp[q1z]|n+1,i=>by simp only[q1z];have:=qf3 s n (i+1);split<;>simp<;>omega
theorem qep(s:Nat):(nodes s).length<=10:=qf3 s 10 0
theorem q76(h:k<10):has s (k:Int)=s.testBit k:=by simp only[has,tN];grind
theorem qoe{s:Nat}(hs:s<1024):∀(n i:Nat)(acc:LI),i+n=10->acc.length<=i->z54 (s:Int) acc (i:Int)=some (acc++(q1z s n i).map Int.ofNat)|0,i,acc,h,ha=>by apply yad;rw[q00 (by omega)];simp[q1z]|n+1,i,acc,h,ha=>by apply yad;rw[q04 (by omega)];simp only[cT,q1b hs,bS,q76 (show i<10 by omega),q03 (show i<4611686018427387904 by omega),q1z];cases hb:s.testBit i with|true=>simp only[cT,if_true];rw[q06 (by simp[q07];omega),qoe hs n (i+1) _ (by omega) (by simp_all)];simp|false=>simp only[cF,fT,if_false];rw[qoe hs n (i+1) _ (by omega) (by omega)]
theorem y60(hs:s<1024):z9a (s:Int)=some ((nodes s).map Int.ofNat):=by apply ydl;rw[show(0:Int)=((0:Nat):Int)from rfl,qoe hs 10 0 [] rfl (by simp)];rfl
def q3w:Nat->LB->Nat|_,[]=>0|k,m::r=>(if decide (k<10)&&m.Declared then 2^k else 0)|||q3w (k+1) r
def decl(c:Config):Nat:=q3w 0 c.Members
theorem q9w:∀(l:LB)(k i:Nat),(q3w k l).testBit i=true↔k<=i/\i<10/\∃m,l[i-k]?=some m/\m.Declared=true|[],k,i=>by simp[q3w]|m::r,k,i=>by simp only[q3w,Nat.testBit_or,Bool.or_eq_true];rw[q9w r (k+1) i];grind
theorem qsu{c:Config}:(decl c).testBit i=true↔i<10/\∃m,c.Members[i]?=some m/\m.Declared=true:=by unfold decl;rw[q9w];simp
theorem qjw:∀(l:LB)(k:Nat),q3w k l<1024
 |[],_=>by simp[q3w]|m::r,k=>by
  simp only[q3w];refine Nat.or_lt_two_pow (n:=10) ?_ (qjw r (k+1));split;·rename_i h;simp only[aT,dT]at h;exact Nat.pow_lt_pow_right (by decide) h.1
  omega
theorem qam(c:Config):decl c<1024:=qjw _ _
theorem q9m(l a8:LB)(hl:l.length<1152921504606846976):∀(suf:LB)(i s:Nat),l.drop i=suf->s<1024->z28 (s:Int) l ((l.length:Nat):Int) (i:Int) a8=some ((s|||q3w i suf:Nat):Int)
 |[],i,s,h,hs=>by apply y8s;simp only[q0c h,cF,q3w,Nat.or_zero]|m::suf,i,s,h,hs=>by
  have hlt:=q09 h;apply y8s;simp only[q05 h,cT,q02 h,q03 (show i<4611686018427387904 by omega),q3w];by_cases hi:i<10;·have hp:2^i<1024:=Nat.pow_lt_pow_right (a:=2) (by decide) hi;rw[q04 (by omega)];cases hd:m.Declared with|true=>simp only[cT];rw[q0i (by omega),shl1 (by omega) (by omega),tN,q3a (by omega) (by omega),q9m l a8 hl suf (i+1) _ (q01 h) (Nat.or_lt_two_pow (n:=10) hs hp)];grind|false=>simp only[cT,cF];rw[q9m l a8 hl suf (i+1) _ (q01 h) hs];simp
  .rw[q00 (by omega)];simp only[cF];rw[q9m l a8 hl suf (i+1) _ (q01 h) hs];grind
theorem q96(c:Config)(h:c.Members.length<1152921504606846976):z4u c=some ((decl c:Nat):Int):=by apply yhw;rw[show(0:Int)=((0:Nat):Int)from rfl,q9m c.Members c.Members h c.Members 0 0 rfl (by decide),Nat.zero_or];rfl
def tr(c:Config)(k:Nat):Trust:=((c.Members[k]?).map (·.Trust)).getD blank
def Sub(a b:Nat):Prop:=∀i,a.testBit i=true->b.testBit i=true
theorem Sub.refl(a:Nat):Sub a a:=fun _ h=>h
theorem Sub.trans{c:Nat}(h:Sub a b)(h':Sub b c):Sub a c:=fun i hi=>h' i (h i hi)
theorem y4u:Sub a b↔a&&&b=a:=by
 constructor;·intro h;apply Nat.eq_of_testBit_eq;intro i;rw[Nat.testBit_and];have:=h i;cases h3:a.testBit i<;>simp_all
 .intro h i hi;grind
theorem Sub.and_left(a b:Nat):Sub (a&&&b) a:=fun i h=>by simp_all
theorem Sub.and_right(a b:Nat):Sub (a&&&b) b:=fun i h=>by simp_all
theorem Sub.lt(h:Sub a b)(hb:b<1024):a<1024:=by rw[y4u]at h;rw[<-h];exact Nat.lt_of_le_of_lt Nat.and_le_right hb
theorem yd1(h:Sub a b):∀k:Int,has a k=true->has b k=true:=by intro k hk;simp only[has,aT]at hk⊢;exact⟨hk.1,hk.2.1,h _ hk.2.2⟩
theorem qk2(hs:s<1024)(h:s.testBit i=true):i<10:=by apply Classical.byContradiction;intro hn;have:s.testBit i=false:=Nat.testBit_lt_two_pow (Nat.lt_of_lt_of_le hs (Nat.pow_le_pow_right (n:=2) (by decide) (show 10<=i by omega)));simp_all
theorem qw6{α:Type}{a b:List α}{i:Nat}(h1:i<a.length)(h2:i<b.length):a.drop i=b.drop i↔a[i]=b[i]/\a.drop (i+1)=b.drop (i+1):=by rw[List.drop_eq_getElem_cons h1,List.drop_eq_getElem_cons h2,List.cons.injEq]
theorem qh6{a b:LI}(hl:a.length<1152921504606846976)(hab:a.length=b.length):∀(n i:Nat),i+n=a.length->∃r,z5q a b ((a.length:Nat):Int) (i:Int)=some r/\(r=true↔a.drop i=b.drop i)
 |0,i,h=>by refine⟨true,?_,by simp_all⟩;apply y3x;rw[q00 (by omega)];rfl|n+1,i,h=>by
  have h1:i<a.length:=by omega
  have h2:i<b.length:=by omega
  obtain⟨r,e1,e2⟩:=qh6 hl hab n (i+1) (by omega);rw[qw6 h1 h2];by_cases hx:a[i]=b[i];·refine⟨r,?_,by rw[e2];simp[hx]⟩;apply y3x;rw[q04 (by omega),q0m (by omega) (show a[((i:Nat):Int).toNat]?=some a[i]by simp),q0m (by omega) (show b[((i:Nat):Int).toNat]?=some b[i]by simp),hx,q0g,q03 (by omega)];simp_all
  .refine⟨false,?_,by grind⟩;apply y3x;rw[q04 (by omega),q0m (by omega) (show a[((i:Nat):Int).toNat]?=some a[i]by simp),q0m (by omega) (show b[((i:Nat):Int).toNat]?=some b[i]by simp),q1c hx];rfl
theorem y14{a b:LI}(hl:a.length<1152921504606846976):∃r,z9h a b=some r/\(r=true↔a=b):=by
 by_cases hab:a.length=b.length;·obtain⟨r,e1,e2⟩:=qh6 hl hab a.length 0 (by omega);refine⟨r,?_,by simpa using e2⟩;apply yb6;rw[<-hab,q0g];grind
 .refine⟨false,?_,by grind⟩;apply yb6;rw[q1c (by omega)];rfl
theorem y1c:∀a:Trust,Small a->∀b:Trust,∃r,z2l a b=some r/\(r=true↔a=b):=by
 apply Trust.ind;intro a ih ha b;have hn:=ha.nodes;have hi:=ha.inner;obtain⟨ta,na,ia⟩:=a;obtain⟨tb,nb,ib⟩:=b;simp only at hn hi ih;by_cases ht:ta=tb;·obtain⟨r1,e1,e2⟩:=y14 (b:=nb) (show na.length<1152921504606846976 by omega);cases r1 with
  |false=>
   have:na≠nb:=fun e=>by have:=e2.2 e;cases this
   refine⟨false,?_,by simp[this]⟩;apply qy9;simp_all|true=>
   have hnn:na=nb:=e2.1 rfl;by_cases hl:ia.length=ib.length
   .have l1:∀(n i:Nat),i+n=ia.length->∃r,z4l ((ia.length:Nat):Int) (i:Int) ta na ia tb nb ib=some r/\(r=true↔ia.drop i=ib.drop i):=by intro n;induction n with|zero=>intro i h;refine⟨true,?_,by simp[List.drop_eq_nil_of_le (show ia.length<=i by omega),List.drop_eq_nil_of_le (show ib.length<=i by omega)]⟩;apply y99;rw[q00 (by omega)];rfl|succ n ihn=>
      intro i h;have h1:i<ia.length:=by omega
      have h2:i<ib.length:=by omega
      obtain⟨r,g1,g2⟩:=ihn (i+1) (by omega);obtain⟨q,g3,g4⟩:=ih ia[i] (List.getElem_mem h1) (ha.mem (List.getElem_mem h1)) ib[i];rw[qw6 h1 h2];have step:∀res,(bif(!q)then some false else z4l ((ia.length:Nat):Int) ((i+1:Nat):Int) ta na ia tb nb ib)=some res->z4l ((ia.length:Nat):Int) (i:Int) ta na ia tb nb ib=some res:=by intro res hres;apply y99;rw[q04 (by omega),q0m (by omega) (show ia[((i:Nat):Int).toNat]?=some ia[i]by simp),q0m (by omega) (show ib[((i:Nat):Int).toNat]?=some ib[i]by simp),g3,q03 (by omega)];exact hres
      cases q with|true=>have he:=g4.1 rfl;exact⟨r,step r g1,by rw[g2];simp[he]⟩|false=>
       have he:ia[i]≠ib[i]:=fun e=>by have:=g4.2 e;cases this
       exact⟨false,step false rfl,by simp[he]⟩
    obtain⟨r,g1,g2⟩:=l1 ia.length 0 (by omega);refine⟨r,?_,by rw[g2];simp[ht,hnn]⟩;apply qy9;subst ht;simp only[q0g,cF,e1,bS,nT,<-hl];omega
   .refine⟨false,?_,by grind⟩;apply qy9;simp only[ht,q0g,cF,e1,bS,nT];rw[q1c (by omega)];rfl
 .refine⟨false,?_,by grind⟩;apply qy9;simp only[q1c ht,cT]
variable {s : Nat}
theorem q8m{s:Nat}(hs:s<1024)(xs:LI)(hl:xs.length<1152921504606846976)(a11:Int)(a13:LI)(a15:LT):∀(suf:LI)(i c:Nat),xs.drop i=suf->c<=i->Le (z1b s ((c+cnt s suf:Nat):Int) a15 ((a15.length:Nat):Int) 0 a11 a13 a15) (z1l s (c:Int) xs ((xs.length:Nat):Int) (i:Int) a11 a13 a15)|[],i,c,h,hc=>fun r hr=>by apply y8l;simp only[q0c h,cF];exact hr|y::suf,i,c,h,hc=>fun r hr=>by apply y8l;have hlt:=q09 h;simp only[q05 h,cT,q02 h,q1i hs,bS,q03 (show i<4611686018427387904 by omega),q03 (show c<4611686018427387904 by omega)];cases hy:has s y with|true=>simp only[cT];refine q8m hs xs hl a11 a13 a15 suf (i+1) (c+1) (q01 h) (by omega) r ?_;rw[<-hr];congr 2;simp only[cnt,List.countP_cons,hy,if_true];omega|false=>simp only[cF];refine q8m hs xs hl a11 a13 a15 suf (i+1) c (q01 h) (by omega) r ?_;rw[<-hr];congr 2;simp only[cnt,List.countP_cons,hy];rfl
theorem qe6(hs:s<1024):∀t:Trust,Small t->z33 t s=some (sat s t):=by
 apply Trust.ind;intro t ih ht;have hn:=ht.nodes;have hi:=ht.inner;have l2:∀(suf:LT)(i c:Nat),t.Inner.drop i=suf->c<=t.Nodes.length+i->z1b s (c:Int) t.Inner ((t.Inner.length:Nat):Int) (i:Int) t.Threshold t.Nodes t.Inner=some (decide (t.Threshold<=((c+sats s suf:Nat):Int))):=by intro suf;induction suf with|nil=>intro i c h hc;apply yb7;simp only[q0c h,cF,sats,Nat.add_zero];rfl|cons y suf ihs=>
   intro i c h hc;apply yb7;have hlt:=q09 h;have hy:y∈t.Inner:=by
    have:y∈t.Inner.drop i:=by rw[h];exact List.mem_cons_self
    grind
   simp only[q05 h,cT,q02 h,ih y hy (ht.mem hy),bS,q03 (show i<4611686018427387904 by omega),q03 (show c<4611686018427387904 by omega)];cases hsy:sat s y with|true=>simp only[cT];rw[ihs (i+1) (c+1) (q01 h) (by omega)];simp only[sats,hsy,if_true];grind|false=>simp only[cF];rw[ihs (i+1) c (q01 h) (by omega)];simp only[sats,hsy,fT,if_false,Nat.zero_add]
 apply ydh;simp only[q3n hs,bS,nT,cF];apply q8m hs t.Nodes (by omega) t.Threshold t.Nodes t.Inner t.Nodes 0 0 rfl (Nat.le_refl _);rw[show(0:Int)=((0:Nat):Int)from rfl,l2 t.Inner 0 _ rfl (by have:cnt s t.Nodes<=t.Nodes.length:=List.countP_le_length;omega)];rw[y4m,Nat.zero_add]
theorem y5x:∀t:Trust,Small t->z7g t=some ((size t:Nat):Int):=by
 apply Trust.ind;intro t ih ht;have hn:=ht.nodes;have hi:=ht.inner;have hs:size t<1152921504606846976:=ht;have l1:∀(suf:LT)(i c:Nat),t.Inner.drop i=suf->c+sizes suf=size t->z43 (c:Int) t.Inner ((t.Inner.length:Nat):Int) (i:Int) t.Threshold t.Nodes t.Inner=some ((size t:Nat):Int):=by intro suf;induction suf with|nil=>intro i c h hc;apply y8b;simp only[q0c h,cF];simp only[sizes,Nat.add_zero]at hc;rw[hc]|cons y suf ihs=>intro i c h hc;apply y8b;have hlt:=q09 h;have hy:y∈t.Inner:=List.mem_of_mem_drop (by rw[h];simp);simp only[sizes]at hc;simp only[q05 h,cT,q02 h,ih y hy (ht.mem hy),bS,q03 (show i<4611686018427387904 by omega)];rw[q22 (by omega) (by omega)];exact ihs (i+1) (c+size y) (q01 h) (by omega)
 apply yet;rw[q22 (by omega) (by omega)];have h1:=q2a t;exact l1 t.Inner 0 (t.Nodes.length+t.Inner.length) rfl (by omega)
theorem y0s:∀t:Trust,Small t->z6r t=some ((depth t:Nat):Int):=by
 apply Trust.ind;intro t ih ht;have hi:=ht.inner;have hd:=q64 t;have hs:size t<1152921504606846976:=ht;have l1:∀(suf:LT)(i c:Nat),t.Inner.drop i=suf->max c (q50 suf)=q50 t.Inner->z3e (c:Int) t.Inner ((t.Inner.length:Nat):Int) (i:Int) t.Threshold t.Nodes t.Inner=some ((depth t:Nat):Int):=by intro suf;induction suf with|nil=>intro i c h hc;apply yah;simp only[q0c h,cF];simp only[q50,Nat.max_zero]at hc;rw[qe0]at hd⊢;rw[hc,q03 (by omega)]|cons y suf ihs=>
   intro i c h hc;apply yah;have hlt:=q09 h;have hy:y∈t.Inner:=List.mem_of_mem_drop (by rw[h];simp);simp only[q50]at hc;simp only[q05 h,cT,q02 h,ih y hy (ht.mem hy),bS,q03 (show i<4611686018427387904 by omega)];have:(if((depth y:Nat):Int)>(c:Int)then((depth y:Nat):Int)else(c:Int))=((max c (depth y):Nat):Int):=by split<;>omega
   rw[this];exact ihs (i+1) (max c (depth y)) (q01 h) (by omega)
 apply yig;exact l1 t.Inner 0 0 rfl (by omega)
theorem qk4{s:Nat}(hs:s<1024):∀(n i:Nat)(acc:LI),i+n=10->acc.length<=i->z3i (s:Int) acc (i:Int)=some (acc++(q1z s n i).map Int.ofNat)|0,i,acc,h,ha=>by apply ybk;rw[q00 (by omega)];simp[q1z]|n+1,i,acc,h,ha=>by apply ybk;rw[q04 (by omega)];simp only[cT,q1i hs,bS,q76 (show i<10 by omega),q03 (show i<4611686018427387904 by omega),q1z];cases hb:s.testBit i with|true=>simp only[cT,if_true];rw[q06 (by simp[q07];omega),qk4 hs n (i+1) _ (by omega) (by simp_all)];simp|false=>simp only[cF,fT,if_false];rw[qk4 hs n (i+1) _ (by omega) (by omega)]
theorem qit(hs:s<1024):z4k (s:Int)=some ((nodes s).map Int.ofNat):=by apply yeb;rw[show(0:Int)=((0:Nat):Int)from rfl,qk4 hs 10 0 [] rfl (by simp)];rfl
theorem q7l(l a8:LB)(hl:l.length<1152921504606846976):∀(suf:LB)(i s:Nat),l.drop i=suf->s<1024->z0y (s:Int) l ((l.length:Nat):Int) (i:Int) a8=some ((s|||q3w i suf:Nat):Int)
 |[],i,s,h,hs=>by apply ybg;simp only[q0c h,cF,q3w,Nat.or_zero]|m::suf,i,s,h,hs=>by
  have hlt:=q09 h;apply ybg;simp only[q05 h,cT,q02 h,q03 (show i<4611686018427387904 by omega),q3w];by_cases hi:i<10;·have hp:2^i<1024:=Nat.pow_lt_pow_right (a:=2) (by decide) hi;rw[q04 (by omega)];cases hd:m.Declared with|true=>simp only[cT];rw[q0i (by omega),shl1 (by omega) (by omega),tN,q3a (by omega) (by omega),q7l l a8 hl suf (i+1) _ (q01 h) (Nat.or_lt_two_pow (n:=10) hs hp)];grind|false=>simp only[cT,cF];rw[q7l l a8 hl suf (i+1) _ (q01 h) hs];simp
  .rw[q00 (by omega)];simp only[cF];rw[q7l l a8 hl suf (i+1) _ (q01 h) hs];grind
theorem qhj(c:Config)(h:c.Members.length<1152921504606846976):z2r c=some ((decl c:Nat):Int):=by apply yfj;rw[show(0:Int)=((0:Nat):Int)from rfl,q7l c.Members c.Members h c.Members 0 0 rfl (by decide),Nat.zero_or];rfl
theorem qwc(k:Int):z7k k=some (inR k):=by
 apply yg5;unfold inR;by_cases h0:0<=k
 .by_cases h1:k<10;·simp[q0s h0,q04 h1,h0,h1]
  .simp[q0s h0,q00 (Int.not_lt.1 h1),h0,h1]
 .simp[q0v (Int.not_le.1 h0),h0]
theorem qnt(xs:LI)(hl:xs.length<1152921504606846976)(a9:Int)(a11:LI)(a13:LT):∀(suf:LI)(i c:Nat),xs.drop i=suf->c<1024->Le (z2z ((c|||usesN suf:Nat):Int) a13 ((a13.length:Nat):Int) 0 a9 a11 a13) (z2y (c:Int) xs ((xs.length:Nat):Int) (i:Int) a9 a11 a13)|[],i,c,h,hc=>fun r hr=>by apply yau;simp only[q0c h,cF];simpa[usesN]using hr|y::suf,i,c,h,hc=>fun r hr=>by have hlt:=q09 h;apply yau;simp only[q05 h,cT,q02 h,q03 (show i<4611686018427387904 by omega),qwc,bS];cases hy:inR y with|true=>have hy':=hy;simp only[inR,aT,dT]at hy';have hb:=q9q hy;simp only[cT,q0i hy'.1,qgc hy,q3a (show c<2^62 by omega) (show bit y<2^62 by omega)];refine qnt xs hl a9 a11 a13 suf (i+1) (c|||bit y) (q01 h) (Nat.or_lt_two_pow (n:=10) hc hb) r ?_;rw[<-hr];congr 2;simp only[usesN,hy,if_true,Nat.or_assoc]|false=>simp only[cF];refine qnt xs hl a9 a11 a13 suf (i+1) c (q01 h) hc r ?_;rw[<-hr];congr 2;simp[usesN,hy]
theorem qy3:∀t:Trust,Small t->z61 t=some ((uses t:Nat):Int):=by
 apply Trust.ind;intro t ih ht;have hn:=ht.nodes;have hi:=ht.inner;have l2:∀(suf:LT)(i c:Nat),t.Inner.drop i=suf->c<1024->z2z (c:Int) t.Inner ((t.Inner.length:Nat):Int) (i:Int) t.Threshold t.Nodes t.Inner=some ((c|||usesL suf:Nat):Int):=by intro suf;induction suf with|nil=>intro i c h hc;apply y9z;simp only[q0c h,cF,usesL,Nat.or_zero]|cons y suf ihs=>intro i c h hc;have hlt:=q09 h;have hy:y∈t.Inner:=List.mem_of_mem_drop (by rw[h];simp);have hu:=qoo y;apply y9z;simp only[q05 h,cT,q02 h,ih y hy (ht.mem hy),bS,q03 (show i<4611686018427387904 by omega),q3a (show c<2^62 by omega) (show uses y<2^62 by omega)];rw[ihs (i+1) (c|||uses y) (q01 h) (Nat.or_lt_two_pow (n:=10) hc hu)];simp only[usesL,Nat.or_assoc]
 apply yek;refine qnt t.Nodes (by omega) _ _ _ t.Nodes 0 0 rfl (by decide) _ ?_;rw[show(0:Int)=((0:Nat):Int)from rfl,l2 t.Inner 0 _ rfl (Nat.or_lt_two_pow (n:=10) (by decide) (qi9 _)),Nat.zero_or,qoi]
variable {c : Config} {k s : Nat}
def q31(c:Config):Prop:=c.Members.length<1152921504606846976/\∀m∈c.Members,Small m.Trust
theorem q3j{t:Trust}(h:valid t=true):Small t:=by simp only[valid,aT,dT]at h;unfold Small;omega
theorem ConfOk.smallC{n:Nat}(h:ConfOk n c)(hn:n<=10):q31 c:=by
 refine⟨by have:=h.le;omega,fun m hm=>?_⟩;have:=h.mem m hm;unfold MemOk at this;split at this;·exact q3j this.1
 .rw[this];unfold Small;simp[blank,size,sizes]
theorem qdq(h:(decl c).testBit k=true):∃m,c.Members[k]?=some m/\tr c k=m.Trust/\m.Declared=true:=by obtain⟨_,m,h1,h2⟩:=qsu.1 h;exact⟨m,h1,by simp[tr,h1],h2⟩
theorem q6p(h:s.testBit k=true)(i:Nat):(s-2^k).testBit i=(s.testBit i&&decide (i≠k)):=by
 have hp:=Nat.two_pow_pos k;have hodd:s/2^k%2=1:=by grind
 have hr:s%2^k<2^k:=Nat.mod_lt _ hp;have e0:s=2^k*(2*(s/2^k/2)+1)+s%2^k:=by
  have e1:2*(s/2^k/2)+1=s/2^k:=by omega
  rw[e1];exact(Nat.div_add_mod s (2^k)).symm
 generalize s/2^k/2=q at e0;generalize s%2^k=r at e0 hr;have e2:s-2^k=2^k*(2*q)+r:=by grind
 rw[e2,e0,Nat.testBit_two_pow_mul_add _ hr,Nat.testBit_two_pow_mul_add _ hr];by_cases h1:i<k;·grind
 .rw[if_neg h1,if_neg h1];by_cases h2:i=k;·simp_all
  .obtain⟨d,hd⟩:∃d,i-k=d+1:=⟨i-k-1,by omega⟩;grind
def q71(c:Config)(s:Nat):Option Nat:=(nodes s).find? fun k=>!sat s (tr c k)
def elim(c:Config):Nat->Nat->List Nat×Nat|0,s=>([],s)|n+1,s=>match q71 c s with|none=>([],s)|some k=>(k::(elim c n (s-2^k)).1,(elim c n (s-2^k)).2)
def q7d(c:Config)(s:Nat):Nat:=(elim c 1024 (s&&&decl c)).2
theorem q5v(h:q71 c s=some k):s.testBit k=true/\k<10/\sat s (tr c k)=false:=by unfold q71 at h;have h1:=List.find?_some h;have h2:=qj8.1 (List.mem_of_find?_eq_some h);simp_all
theorem qjd(h:s.testBit k=true):s-2^k<s/\Sub (s-2^k) s:=by have h1:2^k<=s:=Nat.ge_two_pow_of_testBit h;have:=Nat.two_pow_pos k;refine⟨by omega,fun i hi=>?_⟩;rw[q6p h]at hi;simp_all
theorem qmc(c:Config):∀(n s:Nat),s<n->s<1024->Sub (elim c n s).2 s/\q71 c (elim c n s).2=none/\(∀q,Sub q s->(∀k,q.testBit k=true->sat q (tr c k)=true)->Sub q (elim c n s).2)|0,s,h,_=>by omega|n+1,s,h,hs=>by simp only[elim];cases hu:q71 c s with|none=>exact⟨Sub.refl s,hu,fun q hq _=>hq⟩|some k=>
   obtain⟨h1,h2,h3⟩:=q5v hu;obtain⟨h4,h5⟩:=qjd h1;obtain⟨i1,i2,i3⟩:=qmc c n (s-2^k) (by omega) (by omega);refine⟨i1.trans h5,i2,fun q hq hsat=>i3 q (fun i hi=>?_) hsat⟩;rw[q6p h1,hq i hi];have:i≠k:=by rintro rfl;have:=y6q (yd1 hq) _ (hsat i hi);rw[h3]at this;cases this
   simp_all
theorem qr6(c:Config)(hs:s<1024):Sub (q7d c s) (s&&&decl c):=by have hlt:s&&&decl c<1024:=Nat.lt_of_le_of_lt Nat.and_le_left hs;exact(qmc c 1024 _ hlt hlt).1
theorem q9f(c:Config)(hs:s<1024):q7d c s<1024:=((qr6 c hs).trans (Sub.and_left _ _)).lt hs
theorem qp4{a b:Nat}(h:b<=a)(ha:a<4611686018427387904):subI .i64 (a:Int) ((b:Nat):Int)=((a-b:Nat):Int):=by rw[q46 (by omega) (by omega)];omega
theorem qr1{c:Config}{s:Nat}(hs:s<1024)(hd:Sub s (decl c))(hc:q31 c)(acc:LI)(l:List Nat)(hl:l.length<=10):∀(suf:List Nat)(i:Nat),l.drop i=suf->(∀k∈suf,s.testBit k=true)->acc.length<1024->∀res,(match suf.find? (fun k=>!sat s (tr c k))with|none=>z5i (s:Int) acc false (l.map Int.ofNat) ((l.length:Nat):Int) ((l.length:Nat):Int) false c.Members|some k=>z2o ((s-2^k:Nat):Int) (acc++[(k:Int)]) true c.Members)=some res->i<=l.length->z20 (s:Int) acc false (l.map Int.ofNat) ((l.length:Nat):Int) (i:Int) c.Members=some res
 |[],i,h,hm,ha,res,hres,hil=>by
  have:i=l.length:=by have:=List.drop_eq_nil_iff.1 h;omega
  subst this;apply yav;rw[q0c h];grind|k::suf,i,h,hm,ha,res,hres,hil=>by
  have hlt:=q09 h;have hk:=hm k (by simp);have hk10:=qk2 hs hk;obtain⟨m,h1,h2,_⟩:=qdq (hd k hk);have h':(l.map Int.ofNat).drop i=(k:Int)::suf.map Int.ofNat:=by rw[<-List.map_drop,h];rfl
  apply yav;rw[q04 (by omega),q02 h',q0m (by omega) (show c.Members[((k:Nat):Int).toNat]?=some m by simp_all),qhi hs m.Trust (hc.2 m (List.mem_of_getElem? h1)),q03 (by omega)];simp only[cT,bS];rw[List.find?_cons]at hres;cases hq:sat s (tr c k)with|true=>rw[<-h2,hq];simp only[hq,nT]at hres;simp only[nT,cF];exact qr1 hs hd hc acc l hl suf (i+1) (q01 h) (fun x hx=>hm x (by grind)) ha res hres (by omega)|false=>rw[<-h2,hq];simp only[hq,Bool.not_false]at hres;simp only[Bool.not_false,cT];have hp:2^k<=s:=Nat.ge_two_pow_of_testBit hk;rw[q0i (by omega),q06 (by simp[q07];omega),shl1 (by omega) (by omega),tN,qp4 hp (by omega)];omega
theorem qx9(c:Config):∀n s,s<=n->(elim c n s).1.length<=s|0,s,_=>by simp[elim]|n+1,s,h=>by simp only[elim];cases hu:q71 c s with|none=>simp|some k=>have:=qjd (q5v hu).1;have:=qx9 c n (s-2^k) (by omega);grind
theorem qwx{c:Config}(hc:q31 c):∀(n s:Nat)(acc:LI),s<n->s<1024->Sub s (decl c)->acc.length+s<1024->z2o (s:Int) acc true c.Members=some (acc++(elim c n s).1.map Int.ofNat)|0,s,acc,h,_,_,_=>by omega|n+1,s,acc,h,hs,hd,ha=>by apply yh6;simp only[cT,y60 hs,bS,List.length_map];refine qr1 hs hd hc acc (nodes s) (qep s) (nodes s) 0 rfl (fun k hk=>(qj8.1 hk).1) (by omega) _ ?_ (Nat.zero_le _);simp only[elim];rw[show(nodes s).find? (fun k=>!sat s (tr c k))=q71 c s from rfl];cases hu:q71 c s with|none=>simp only;apply yge;simp|some k=>obtain⟨h1,h2,h3⟩:=q5v hu;obtain⟨h4,h5⟩:=qjd h1;simp only;rw[qwx hc n (s-2^k) _ (by omega) (by omega) (h5.trans hd) (by grind)];simp
theorem ql7(c:Config)(ms:LB)(l:List Nat)(hl:l.length<2000):∀(n s i:Nat),s<n->s<1024->l.drop i=(elim c n s).1->z5m (s:Int) (l.map Int.ofNat) ((l.length:Nat):Int) (i:Int) ms=some (((elim c n s).2:Nat):Int)|0,s,i,h,_,_=>by omega|n+1,s,i,h,hs,hdrop=>by simp only[elim]at hdrop⊢;apply yeu;cases hu:q71 c s with|none=>rw[hu]at hdrop;simp only at hdrop⊢;rw[q0c hdrop];rfl|some k=>
   rw[hu]at hdrop;simp only at hdrop⊢;obtain⟨h1,h2,h3⟩:=q5v hu;obtain⟨h4,h5⟩:=qjd h1;have hlt:=q09 hdrop;have h':(l.map Int.ofNat).drop i=(k:Int)::((elim c n (s-2^k)).1).map Int.ofNat:=by rw[<-List.map_drop,hdrop];rfl
   have hp:2^k<=s:=Nat.ge_two_pow_of_testBit h1;rw[q04 (by omega),q02 h',q0i (by omega),shl1 (by omega) (by omega),tN,qp4 hp (by omega),q03 (by omega)];exact ql7 c ms l hl n (s-2^k) (i+1) (by omega) (by omega) (q01 hdrop)
theorem qjo(hs:s<1024)(hc:q31 c):z7p c (s:Int)=some ((q7d c s:Nat):Int):=by
 have hlt:s&&&decl c<1024:=Nat.lt_of_le_of_lt Nat.and_le_left hs;have he:z75 c (s:Int)=some ((elim c 1024 (s&&&decl c)).1.map Int.ofNat):=by apply yga;rw[q2x hs];simp only[bS,nT,cF,q96 c hc.1];rw[q9g (by omega) (by have:=qam c;omega),qwx hc 1024 _ [] hlt hlt (Sub.and_right _ _) (by simp_all)];rfl
 apply yiu;rw[q2x hs];simp only[bS,nT,cF,q96 c hc.1,he,List.length_map];rw[q9g (by omega) (by have:=qam c;omega)];have hlen:=qx9 c 1024 (s&&&decl c) (by omega);exact ql7 c c.Members _ (by omega) 1024 _ 0 hlt hlt rfl
variable {t : Trust} {c : Config}
def ofE(s:Nat):LI->Int|[]=>0|k::r=>if inR k=true then(if has s k=true then 6 else ofE (s|||bit k) r)else 5
theorem qpm:∀(l:LI)(s:Nat),ofE s l=0↔fresh s l=true|[],s=>by simp[ofE,fresh]|k::r,s=>by have:=qpm r (s|||bit k);by_cases h1:inR k=true<;>by_cases h2:has s k=true<;>simp[ofE,fresh,h1,h2,this]
theorem qu5{y:Int}(h:¬inR y=true):¬(0<=y/\y<10):=by simpa[inR]using h
theorem y16(xs:LI)(hl:xs.length<1152921504606846976):∀(suf:LI)(i s:Nat),xs.drop i=suf->s<1024->∃v,z2f (s:Int) xs ((xs.length:Nat):Int) (i:Int)=some (v,ofE s suf)
 |[],i,s,h,hs=>⟨s,by apply qhb;simp only[q0c h,cF,ofE]⟩|y::suf,i,s,h,hs=>by
  have hlt:=q09 h;by_cases hy:inR y=true;·have hy':=hy;simp only[inR,aT,dT]at hy';cases hh:has s y with|true=>refine⟨0,?_⟩;apply qhb;simp only[q05 h,cT,q02 h,q00 hy'.1,q0v hy'.2,cF,q1b hs,hh,bS,ofE,hy,if_true]|false=>have hb:=q9q hy;obtain⟨v,h1⟩:=y16 xs hl suf (i+1) (s|||bit y) (q01 h) (Nat.or_lt_two_pow (n:=10) hs hb);refine⟨v,?_⟩;apply qhb;simp only[q05 h,cT,q02 h,q00 hy'.1,q0v hy'.2,cF,q1b hs,hh,bS,q0i hy'.1,qgc hy,q3a (show s<2^62 by omega) (show bit y<2^62 by omega),q03 (show i<4611686018427387904 by omega),ofE,hy,if_true];grind
  .have hn:=qu5 hy;refine⟨0,?_⟩;apply qhb;simp only[q05 h,cT,q02 h,ofE,hy];by_cases h0:y<0;·simp only[q04 h0,cT];rfl
   .simp only[q00 (Int.not_lt.1 h0),cF,q0s (show 10<=y by omega),cT];rfl
theorem ycu(xs:LI)(hl:xs.length<1152921504606846976):∃v,z9o xs=some (v,ofE 0 xs):=by obtain⟨v,h1⟩:=y16 xs hl xs 0 0 rfl (by decide);exact⟨v,y8n _ _ h1⟩
theorem y3i(xs:LI)(hl:xs.length<1152921504606846976):∀(suf:LI)(i s:Nat),xs.drop i=suf->s<1024->∃v,z4h (s:Int) xs ((xs.length:Nat):Int) (i:Int)=some (v,ofE s suf)
 |[],i,s,h,hs=>⟨s,by apply qwv;simp only[q0c h,cF,ofE]⟩|y::suf,i,s,h,hs=>by
  have hlt:=q09 h;by_cases hy:inR y=true;·have hy':=hy;simp only[inR,aT,dT]at hy';cases hh:has s y with|true=>refine⟨0,?_⟩;apply qwv;simp only[q05 h,cT,q02 h,q00 hy'.1,q0v hy'.2,cF,q1i hs,hh,bS,ofE,hy,if_true]|false=>have hb:=q9q hy;obtain⟨v,h1⟩:=y3i xs hl suf (i+1) (s|||bit y) (q01 h) (Nat.or_lt_two_pow (n:=10) hs hb);refine⟨v,?_⟩;apply qwv;simp only[q05 h,cT,q02 h,q00 hy'.1,q0v hy'.2,cF,q1i hs,hh,bS,q0i hy'.1,qgc hy,q3a (show s<2^62 by omega) (show bit y<2^62 by omega),q03 (show i<4611686018427387904 by omega),ofE,hy,if_true];grind
  .have hn:=qu5 hy;refine⟨0,?_⟩;apply qwv;simp only[q05 h,cT,q02 h,ofE,hy];by_cases h0:y<0;·simp only[q04 h0,cT];rfl
   .simp only[q00 (Int.not_lt.1 h0),cF,q0s (show 10<=y by omega),cT];rfl
theorem ycy(xs:LI)(hl:xs.length<1152921504606846976):∃v,z9q xs=some (v,ofE 0 xs):=by obtain⟨v,h1⟩:=y3i xs hl xs 0 0 rfl (by decide);exact⟨v,yfq _ _ h1⟩
mutual
def lev : Trust -> Int
 | ⟨thr, nodes, inner⟩ => if 1 <= thr /\ thr <= ((nodes.length + inner.length : Nat) : Int) then (if nodes.all inR = true then (if ofE 0 nodes = 0 then levs inner else ofE 0 nodes) else 5) else 4
def levs : LT -> Int
 | [] => 0
 | x :: r => if lev x = 0 then levs r else lev x
end
theorem y51(t:Trust):lev t=if 1<=t.Threshold/\t.Threshold<=((t.Nodes.length+t.Inner.length:Nat):Int)then(if t.Nodes.all inR=true then(if ofE 0 t.Nodes=0 then levs t.Inner else ofE 0 t.Nodes)else 5)else 4:=by cases t;rfl
theorem y6t:∀t:Trust,lev t=0↔good t=true:=by
 apply Trust.ind;intro t ih;have hi:∀l:LT,(∀x∈l,(lev x=0↔good x=true))->(levs l=0↔goods l=true):=by intro l;induction l with|nil=>intro _;simp[levs,goods]|cons y r ihr=>
   intro h;have h1:=h y (by simp);have h2:=ihr fun x hx=>h x (by simp[hx]);by_cases hy:lev y=0;·simp[levs,goods,hy,h1.1 hy,h2]
   .have:good y=false:=by cases hg:good y with|true=>exact absurd (h1.2 hg) hy|false=>rfl
    simp[levs,goods,hy,this]
 have hin:=hi t.Inner ih;have hf:=qpm t.Nodes 0;rw[y51,qg9];by_cases h1:1<=t.Threshold<;>by_cases h2:t.Threshold<=((t.Nodes.length+t.Inner.length:Nat):Int)
 .rw[if_pos ⟨h1,h2⟩,decide_eq_true h1,decide_eq_true h2];by_cases h3:t.Nodes.all inR=true
  .rw[if_pos h3,h3];by_cases h4:ofE 0 t.Nodes=0;·rw[if_pos h4,hf.1 h4,hin];simp
   .rw[if_neg h4];have:fresh 0 t.Nodes=false:=by cases hg:fresh 0 t.Nodes with|true=>exact absurd (hf.2 hg) h4|false=>rfl
    simp[this,h4]
  .rw[if_neg h3];have h3':t.Nodes.all inR=false:=by simpa using h3
   simp[h3']
 .rw[if_neg (fun h=>h2 h.2),decide_eq_false h2];simp
 .rw[if_neg (fun h=>h1 h.1),decide_eq_false h1];simp
 omega
theorem y3q(xs:LI)(hl:xs.length<1152921504606846976)(thr:Int)(inner:LT)(e:Int)(he:z1p inner ((inner.length:Nat):Int) 0 thr xs inner=some e):∀(suf:LI)(i:Nat),xs.drop i=suf->z1o xs ((xs.length:Nat):Int) (i:Int) thr xs inner=some (if suf.all inR=true then(if ofE 0 xs=0 then e else ofE 0 xs)else 5)
 |[],i,h=>by
  obtain⟨v,h1⟩:=ycu xs hl;apply qji;simp only[q0c h,cF,h1,bS,List.all_nil,if_true];by_cases h0:ofE 0 xs=0;·rw[if_pos h0,h0,q0g];grind
  .rw[if_neg h0,q1c h0];rfl|y::suf,i,h=>by
  have hlt:=q09 h;by_cases hy:inR y=true;·have hy':=hy;simp only[inR,aT,dT]at hy';have h1:=y3q xs hl thr inner e he suf (i+1) (q01 h);apply qji;simp only[q05 h,cT,q02 h,q00 hy'.1,q0v hy'.2,cF,q03 (show i<4611686018427387904 by omega),h1,List.all_cons,hy,tA']
  .have hn:=qu5 hy;apply qji;have hy2:inR y=false:=by simp_all
   simp only[q05 h,cT,q02 h,List.all_cons,hy2,Bool.false_and];by_cases h0:y<0;·simp only[q04 h0,cT];rfl
   .simp only[q00 (Int.not_lt.1 h0),cF,q0s (show 10<=y by omega),cT];rfl
theorem yc0:∀t:Trust,Small t->z57 t=some (lev t):=by
 apply Trust.ind;intro t ih ht;have hn:=ht.nodes;have hi:=ht.inner;have hs:size t<1152921504606846976:=ht;rw[q2a]at hs;have l2:∀(suf:LT)(i:Nat),t.Inner.drop i=suf->z1p t.Inner ((t.Inner.length:Nat):Int) (i:Int) t.Threshold t.Nodes t.Inner=some (levs suf):=by intro suf;induction suf with|nil=>intro i h;apply qq8;simp only[q0c h,cF,levs]|cons y suf ihs=>
   intro i h;have hlt:=q09 h;have hy:y∈t.Inner:=List.mem_of_mem_drop (by rw[h];simp);have h1:=ih y hy (ht.mem hy);apply qq8;simp only[q05 h,cT,q02 h,h1,bS,levs];by_cases he:lev y=0;·rw[if_pos he,he,q0g,q03 (show i<4611686018427387904 by omega),ihs (i+1) (q01 h)];rfl
   .rw[if_neg he,q1c he];rfl
 rw[y51];apply qxb;by_cases h1:1<=t.Threshold
 .by_cases h2:t.Threshold<=((t.Nodes.length+t.Inner.length:Nat):Int);·rw[if_pos ⟨h1,h2⟩,q00 h1,q22 (by omega) (by omega),q00 (by omega)];simp only[cF];exact y3q t.Nodes (by omega) t.Threshold t.Inner _ (l2 t.Inner 0 rfl) t.Nodes 0 rfl
  .rw[if_neg (fun h=>h2 h.2),q00 h1,q22 (by omega) (by omega),q04 (by omega)];rfl
 .rw[if_neg (fun h=>h1 h.1),q04 (by omega)];rfl
theorem qxv(xs:LI)(hl:xs.length<1152921504606846976):∀(suf:LI)(i:Nat),xs.drop i=suf->∃k:Int,z07 xs ((xs.length:Nat):Int) (i:Int)=some k/\leB 0 k=!(suf.all inR)
 |[],i,h=>by refine⟨-1,?_,rfl⟩;apply y4o;rw[q0c h];rfl|y::suf,i,h=>by
  have hlt:=q09 h;have h1:z72 y=some (!inR y):=by apply ye2;rw[qwc];rfl
  cases hy:inR y with|true=>obtain⟨k,g1,g2⟩:=qxv xs hl suf (i+1) (q01 h);refine⟨k,?_,by simpa[hy]using g2⟩;apply y4o;simp only[q05 h,cT,q02 h,h1,bS,hy,nT,cF,q03 (show i<4611686018427387904 by omega)];omega|false=>refine⟨i,?_,by rw[q0s (by omega)];grind⟩;apply y4o;simp only[q05 h,cT,q02 h,h1,bS,hy,Bool.not_false]
theorem qot(xs:LI)(hl:xs.length<1152921504606846976):z0o xs=some (!(xs.all inR)):=by obtain⟨k,g1,g2⟩:=qxv xs hl xs 0 rfl;apply yem;rw[yg9 _ _ g1];simp_all
theorem ycz:∀t:Trust,Small t->z6s t=some (lev t):=by
 apply Trust.ind;intro t ih ht;have hn:=ht.nodes;have hi:=ht.inner;have hs:size t<1152921504606846976:=ht;rw[q2a]at hs;have l2:∀(suf:LT)(i:Nat),t.Inner.drop i=suf->z3f t.Inner ((t.Inner.length:Nat):Int) (i:Int) t.Threshold t.Nodes t.Inner=some (levs suf):=by intro suf;induction suf with|nil=>intro i h;apply yaa;simp only[q0c h,cF,levs]|cons y suf ihs=>
   intro i h;have hlt:=q09 h;have hy:y∈t.Inner:=List.mem_of_mem_drop (by rw[h];simp);have h1:=ih y hy (ht.mem hy);apply yaa;simp only[q05 h,cT,q02 h,h1,bS,levs];by_cases he:lev y=0;·rw[if_pos he,he,q0g,q03 (show i<4611686018427387904 by omega),ihs (i+1) (q01 h)];rfl
   .rw[if_neg he,q1c he];rfl
 rw[y51];apply yg4;by_cases h1:1<=t.Threshold
 .by_cases h2:t.Threshold<=((t.Nodes.length+t.Inner.length:Nat):Int);·rw[if_pos ⟨h1,h2⟩,q00 h1,q22 (by omega) (by omega),q00 (by omega),qot t.Nodes hn];simp only[cF,bS];cases ha:t.Nodes.all inR with|false=>rfl|true=>
    obtain⟨v,h3⟩:=ycy t.Nodes hn;rw[h3];simp only[nT,cF,bS,if_true];by_cases h0:ofE 0 t.Nodes=0;·rw[if_pos h0,h0,q0g];grind
    .rw[if_neg h0,q1c h0];rfl
  .rw[if_neg (fun h=>h2 h.2),q00 h1,q22 (by omega) (by omega),q04 (by omega)];rfl
 .rw[if_neg (fun h=>h1 h.1),q04 (by omega)];rfl
def verr(t:Trust):Int:=if depth t<=4/\size t<=200 then lev t else 3
theorem q4v(t:Trust):verr t=0↔valid t=true:=by unfold verr valid;have:=y6t t;by_cases h1:depth t<=4<;>by_cases h2:size t<=200<;>simp[h1,h2,this]
theorem q92(t:Trust)(ht:Small t):z1a t=some (verr t):=by
 have hs:size t<1152921504606846976:=ht;have hd:=q64 t;apply qxt;unfold verr;rw[qbu t ht];simp only[bS];by_cases h1:depth t<=4
 .rw[q00 (by omega),qgh t ht];simp only[cF,bS];by_cases h2:size t<=200;·rw[q00 (by omega),yc0 t ht,if_pos ⟨h1,h2⟩];rfl
  .rw[q04 (by omega),if_neg (fun h=>h2 h.2)];rfl
 .rw[q04 (by omega),if_neg (fun h=>h1 h.1)];rfl
theorem q9a(t:Trust)(ht:Small t):z1w t=some (verr t):=by
 have hs:size t<1152921504606846976:=ht;have hd:=q64 t;apply ye1;unfold verr;rw[y0s t ht];simp only[bS];by_cases h1:depth t<=4
 .rw[q00 (by omega),y5x t ht];simp only[cF,bS];by_cases h2:size t<=200;·rw[q00 (by omega),ycz t ht,if_pos ⟨h1,h2⟩];rfl
  .rw[q04 (by omega),if_neg (fun h=>h2 h.2)];rfl
 .rw[q04 (by omega),if_neg (fun h=>h1 h.1)];rfl
def q9b(t:Trust):Bool:=decide (t.Threshold=0)&&(t.Nodes.isEmpty&&t.Inner.isEmpty)
theorem qkn:q9b t=true↔t=blank:=by obtain⟨a,b,c⟩:=t;simp[q9b,blank]
theorem y39(ht:Small t):z5y t=some (q9b t):=by
 have hn:=ht.nodes;have hi:=ht.inner;apply yiv;unfold q9b;by_cases h0:t.Threshold=0;·rw[h0,q0e];cases hN:t.Nodes with
  |nil=>cases hI:t.Inner with|nil=>rfl|cons y r=>rfl
  |cons y r=>rfl
 .rw[q0d h0,decide_eq_false h0];rfl
def memE(n:Nat)(m:Member):Int:=if m.Declared=true then(if verr m.Trust=0 then(if uses m.Trust<2^n then 0 else 5)else verr m.Trust)else if q9b m.Trust=true then 0 else 1
def memsE(n:Nat):LB->Int|[]=>0|m::r=>if memE n m=0 then memsE n r else memE n m
def cerr(c:Config):Int:=if c.Members.length<=10 then memsE c.Members.length c.Members else 3
theorem ybq(ms:LB)(hl:ms.length<=10)(hs:∀m∈ms,Small m.Trust):∀(suf:LB)(i:Nat),ms.drop i=suf->z4y ms ((ms.length:Nat):Int) (i:Int) ms=some (memsE ms.length suf)
 |[],i,h=>by apply y9w;rw[q0c h];rfl|m::suf,i,h=>by
  have hlt:=q09 h;have hm:m∈ms:=List.mem_of_mem_drop (by rw[h];simp);have h1:=ybq ms hl hs suf (i+1) (q01 h);have hsm:=hs m hm;apply y9w;rw[q05 h,q02 h];simp only[cT,memsE];by_cases hd:m.Declared=true
  .rw[hd];simp only[nT,cF];rw[q92 m.Trust hsm];simp only[bS];by_cases hv:verr m.Trust=0
   .have hu:=qoo m.Trust;have hp:2^ms.length<=1024:=Nat.pow_le_pow_right (n:=2) (by decide) hl;rw[hv,q0g,q0i (by omega),qio m.Trust hsm,shl1 (by omega) (by omega),tN];simp only[cF,bS];by_cases hb:uses m.Trust<2^ms.length
    .have hE:memE ms.length m=0:=by simp[memE,hd,hv,hb]
     rw[q0v (by omega),q03 (by omega),h1,if_pos hE];rfl
    .have hE:memE ms.length m=5:=by simp[memE,hd,hv,hb]
     rw[q0s (by omega),if_neg (by omega),hE];rfl
   .have hE:memE ms.length m=verr m.Trust:=by simp[memE,hd,hv]
    rw[q1c hv,if_neg (by omega),hE];rfl
  .have hd:m.Declared=false:=by simp_all
   obtain⟨r,g1,g2⟩:=y1c m.Trust hsm blank;have hr:r=q9b m.Trust:=by rw[Bool.eq_iff_iff,g2,qkn]
   rw[hd];simp only[Bool.not_false,cT];rw[show(Trust.mk 0 [] [])=blank from rfl,g1,hr,q03 (by omega),h1];simp only[bS];cases hb:q9b m.Trust with
   |true=>
    have hE:memE ms.length m=0:=by simp[memE,hd,hb]
    simp_all|false=>
    have hE:memE ms.length m=1:=by simp[memE,hd,hb]
    simp_all
theorem qny(h:q31 c):z96 c=some (cerr c):=by
 have:=h.1;apply ydy;unfold cerr;by_cases hl:c.Members.length<=10;·rw[q00 (by omega),if_pos hl];exact ybq c.Members hl h.2 c.Members 0 rfl
 .rw[q04 (by omega),if_neg hl];rfl
theorem pmemE(n:Nat)(hn:n<=10)(m:Member)(hsm:Small m.Trust):z59 m (n:Int)=some (memE n m):=by apply yi6;unfold memE;cases hd:m.Declared with|false=>simp only[Bool.not_false,cT];rw[y39 hsm];cases q9b m.Trust<;>rfl|true=>
  simp only[nT,cF,if_true];rw[q9a m.Trust hsm];simp only[bS];by_cases hv:verr m.Trust=0
  .have hu:=qoo m.Trust;have hp:2^n<=1024:=Nat.pow_le_pow_right (n:=2) (by decide) hn;rw[if_pos hv,hv,q0g,q0i (by omega),qy3 m.Trust hsm,shl1 (by omega) (by omega),tN];simp only[cF,bS];by_cases hb:uses m.Trust<2^n;·rw[q0v (by omega),if_pos hb];rfl
   .rw[q0s (by omega),if_neg hb];rfl
  .rw[if_neg hv,q1c hv];rfl
theorem yam(ms:LB)(hl:ms.length<=10)(hs:∀m∈ms,Small m.Trust):∀(suf:LB)(i:Nat),ms.drop i=suf->z23 ms ((ms.length:Nat):Int) (i:Int) ms=some (memsE ms.length suf)
 |[],i,h=>by apply y9f;rw[q0c h];rfl|m::suf,i,h=>by
  have hlt:=q09 h;have hm:m∈ms:=List.mem_of_mem_drop (by rw[h];simp);have h1:=yam ms hl hs suf (i+1) (q01 h);apply y9f;rw[q05 h,q02 h,pmemE ms.length hl m (hs m hm)];simp only[cT,memsE,bS];by_cases he:memE ms.length m=0;·rw[if_pos he,he,q0g,q03 (by omega),h1];rfl
  .rw[if_neg he,q1c he];rfl
theorem y6v(h:q31 c):z5x c=some (cerr c):=by
 have:=h.1;apply yh2;unfold cerr;by_cases hl:c.Members.length<=10;·rw[q00 (by omega),if_pos hl];exact yam c.Members hl h.2 c.Members 0 rfl
 .rw[q04 (by omega),if_neg hl];rfl
def MemV(n:Nat)(m:Member):Prop:=if m.Declared then valid m.Trust=true/\uses m.Trust<2^n else m.Trust=blank
def ValidC(c:Config):Prop:=c.Members.length<=10/\∀m∈c.Members,MemV c.Members.length m
theorem qwp{n:Nat}{m:Member}:memE n m=0↔MemV n m:=by unfold memE MemV;cases hd:m.Declared with|false=>simp only[fT,if_false];rw[<-qkn];cases q9b m.Trust<;>simp|true=>simp only[if_true];rw[<-q4v];by_cases h1:verr m.Trust=0<;>by_cases h2:uses m.Trust<2^n<;>simp[h1,h2]
theorem qqy{n:Nat}:∀{l:LB},memsE n l=0↔∀m∈l,MemV n m
 |[]=>by simp[memsE]|m::r=>by
  have:=@qqy n r;by_cases h:memE n m=0;·simp[memsE,h,this,qwp.1 h]
  .have:¬MemV n m:=fun h'=>h (qwp.2 h');simp[memsE,h,this]
theorem qap:cerr c=0↔ValidC c:=by unfold cerr ValidC;by_cases h:c.Members.length<=10<;>simp[h,qqy]
variable {a b i k s : Nat} {c : Config}
theorem or_lt(ha:a<1024)(hb:b<1024):a|||b<1024:=Nat.or_lt_two_pow (n:=10) ha hb
theorem qeu(ha:a<1024):ndiff a b<1024:=qwt (n:=10) ha
theorem ych(ha:a<1024):a&&&b<1024:=Nat.lt_of_le_of_lt Nat.and_le_left ha
theorem qkl(h:k<10):2^k<1024:=Nat.pow_lt_pow_right (a:=2) (by decide) h
theorem qul:(1023:Nat).testBit i=decide (i<10):=by rw[show(1023:Nat)=2^10-1 from rfl,Nat.testBit_two_pow_sub_one]
theorem ycw(hs:s<1024):1023-s=ndiff 1023 s:=by apply Nat.eq_of_testBit_eq;intro i;rw[show 1023-s=2^10-(s+1)from by omega,Nat.testBit_two_pow_sub_succ (by omega),q53,qul]
theorem qu0:(2^k).testBit i=decide (k=i):=Nat.testBit_two_pow ..
theorem Sub.left:Sub a (a|||b):=fun i hi=>by simp_all
theorem Sub.right:Sub b (a|||b):=fun i hi=>by simp_all
theorem y4v{k:Int}(h:has s k=true):∃n:Nat,k=(n:Int)/\n<10/\s.testBit n=true:=by simp only[has,aT,dT]at h;grind
def blk(c:Config)(v s:Nat):Bool:=(decl c).testBit v&&!sat (ndiff 1023 s|||2^v) (tr c v)
theorem y1r(hc:q31 c)(hs:s<1024)(v:Int):z6t c v s=some (decide (0<=v)&&blk c v.toNat s):=by
 apply yff;rw[q3n hs];simp only[bS,nT,cF];rw[qhj c hc.1];simp only[bS];rw[q1i (qam c)];simp only[bS];by_cases hh:has (decl c) v=true;·obtain⟨n,rfl,hn,hb⟩:=y4v hh;obtain⟨m,h1,h2,_⟩:=qdq hb;have h3:ndiff 1023 s|||2^n<1024:=or_lt (qeu (by decide)) (qkl hn);have hp:=qkl hn;rw[hh,q0i (by omega),q0m (by omega) (by simpa using h1),shl1 (by omega) (by omega)];simp only[nT,cF,tN];have e1:qfu .i64 1023 (s:Int)=((ndiff 1023 s:Nat):Int):=qcs (a:=1023) (by decide) (by omega);rw[e1,q3a (by have:=qeu (a:=1023) (b:=s) (by decide);omega) (by omega),qe6 h3 m.Trust (hc.2 m (List.mem_of_getElem? h1))];simp[blk,hb,h2]
 .have hf:has (decl c) v=false:=by simpa using hh
  rw[hf];simp only[Bool.not_false,cT];symm;congr 1;by_cases h0:0<=v
  .have:(decl c).testBit v.toNat=false:=by
    by_cases h1:v<10;·simpa[has,h0,h1]using hf
    .cases hb:(decl c).testBit v.toNat with|false=>rfl|true=>have:=qk2 (qam c) hb;omega
   simp[blk,this]
  grind
theorem qyr(hc:q31 c)(hs:s<1024)(v:Int):z8q c v s=some (decide (0<=v)&&blk c v.toNat s):=by
 apply ydv;rw[q2x hs];simp only[bS,nT,cF];rw[q96 c hc.1];simp only[bS];rw[q1b (qam c)];simp only[bS];by_cases hh:has (decl c) v=true
 .obtain⟨n,rfl,hn,hb⟩:=y4v hh;obtain⟨m,h1,h2,_⟩:=qdq hb;have h3:ndiff 1023 s|||2^n<1024:=or_lt (qeu (by decide)) (qkl hn);have hp:=qkl hn;rw[hh,q0i (by omega),q0m (by omega) (by simpa using h1),shl1 (by omega) (by omega)];simp only[nT,cF,tN];have e1:subI .i64 1023 (s:Int)=((ndiff 1023 s:Nat):Int):=by rw[q46 (by omega) (by omega),<-ycw hs];omega
  rw[e1,q3a (by have:=qeu (a:=1023) (b:=s) (by decide);omega) (by omega),qhi h3 m.Trust (hc.2 m (List.mem_of_getElem? h1))];simp[blk,hb,h2]
 .have hf:has (decl c) v=false:=by simpa using hh
  rw[hf];simp only[Bool.not_false,cT];symm;congr 1;by_cases h0:0<=v
  .have:(decl c).testBit v.toNat=false:=by
    by_cases h1:v<10;·simpa[has,h0,h1]using hf
    .cases hb:(decl c).testBit v.toNat with|false=>rfl|true=>have:=qk2 (qam c) hb;omega
   simp[blk,this]
  grind
theorem y05(hc:q31 c)(hs:s<1024)(v:Nat):z6t c (v:Int) s=some (blk c v s):=by rw[y1r hc hs];simp
theorem qtx(hc:q31 c)(hs:s<1024)(v:Nat):z8q c (v:Int) s=some (blk c v s):=by rw[qyr hc hs];simp
end Go.Proofs.YtdmfjabikomgiaaGreat
namespace Go.Proofs.YtdmfjabikomgiaaGreat
open Go Go.Ab Go.Sort
def okS(s:Int):Bool:=decide (0<=s)&&decide (s<1024)
theorem y33(s:Int):z2b s=some (okS s):=by
 apply yaz;have:z6w s 10=some (okS s):=by
  apply y8q;unfold okS;by_cases h0:0<=s
  .rw[q0s h0];simp only[cT];rw[q0i (by decide),shl1 (by decide) (by decide)];by_cases h1:s<1024;·rw[q04 (by simpa using h1)];simp[h0,h1]
   .rw[q00 (by simpa using h1)];simp[h0,h1]
  .rw[q0v (by omega)];simp[h0]
 simp_all
theorem ybx{n:Nat}(h:n<1024):okS (n:Int)=true:=by simp[okS];omega
end Go.Proofs.YtdmfjabikomgiaaGreat
namespace Go.Proofs.YtdmfjabikomgiaaGreat
open Go Go.Ab Go.Sort
end Go.Proofs.YtdmfjabikomgiaaGreat
namespace Go.Proofs.YtdmfjabikomgiaaGreat
open Go Go.Ab Go.Sort
theorem qof{l:List Nat}{i k:Nat}{suf:List Nat}(h:l.drop i=k::suf):(l.map Int.ofNat).drop i=(k:Int)::suf.map Int.ofNat:=by rw[<-List.map_drop,h];rfl
theorem yis{a b:Nat}(h:Sub a b):a<=b:=by rw[<-y4u.1 h];exact Nat.and_le_right
theorem qpw:∀{l:LI}{k:Int},k∈l->inR k=true->has (usesN l) k=true
 |[],k,h,_=>by cases h|y::r,k,h,hk=>by
  have hk':=hk;simp only[inR,aT,dT]at hk';simp only[usesN];rw[y0o];rcases List.mem_cons.1 h with rfl|h
  .have:has (2^k.toNat) k=true:=by simp[has,hk'.1,hk'.2]
   simp[this,hk,bit]
  .rw[qpw h hk];simp
theorem qq6:∀{l:LT}{x:Trust},x∈l->Sub (uses x) (usesL l)
 |[],x,h=>by cases h|y::r,x,h=>by
  simp only[usesL];rcases List.mem_cons.1 h with rfl|h;·exact Sub.left
  .exact(qq6 h).trans Sub.right
theorem pow10{n:Nat}(h:n<=10):2^n<=1024:=Nat.pow_le_pow_right (n:=2) (by decide) h
variable {c : Config} {s : Nat}
theorem y1f{c:Config}{s:Nat}(hs:s<1024)(hd:Sub s (decl c))(hc:q31 c)(l:List Nat)(hl:l.length<=10):∀(suf:List Nat)(i:Nat),l.drop i=suf->(∀k∈suf,s.testBit k=true)->z3j (s:Int) (l.map Int.ofNat) ((l.length:Nat):Int) (i:Int) c.Members=some (match suf.find? (fun k=>!sat s (tr c k))with|some k=>((k:Int),true)|none=>(0,false))
 |[],i,h,hm=>by apply y91;rw[q0c h];rfl|k::suf,i,h,hm=>by
  have hlt:=q09 h;obtain⟨m,h1,h2,_⟩:=qdq (hd k (hm k (by simp)));have ih:=y1f hs hd hc l hl suf (i+1) (q01 h) (fun j hj=>hm j (by grind));have hcon:z89 c (k:Int) (s:Int)=some (sat s (tr c k)):=by apply yhr;rw[q0m (by omega) (by simpa using h1),qe6 hs m.Trust (hc.2 m (List.mem_of_getElem? h1)),h2];rfl
  apply y91;rw[q05 h];simp only[cT,q02 (qof h)];rw[show Config.mk c.Members=c from rfl,hcon,q03 (by omega),ih,List.find?_cons];cases sat s (tr c k)<;>rfl
theorem y2g(hs:s<1024)(hd:Sub s (decl c))(hc:q31 c):z88 c (s:Int)=some (match q71 c s with|some k=>((k:Int),true)|none=>(0,false)):=by apply ydo;rw[qit hs];simp only[bS,List.length_map];exact y1f hs hd hc (nodes s) (qep s) (nodes s) 0 rfl fun k hk=>(qj8.1 hk).1
theorem y29{k:Nat}(h:s.testBit k=true):ndiff s (2^k)=s-2^k:=by apply Nat.eq_of_testBit_eq;intro i;rw[q53,q6p h,qu0];grind
theorem qst{c:Config}(hc:q31 c):∀(n s:Nat)(acc:LI),s<n->s<1024->Sub s (decl c)->acc.length+s<1024->∃l,z2m (s:Int) acc c.Members=some ((((elim c n s).2:Nat):Int),l)|0,s,acc,h,_,_,_=>by omega|n+1,s,acc,h,hs,hd,ha=>by simp only[elim];cases hu:q71 c s with|none=>refine⟨acc,?_⟩;apply y93;rw[show Config.mk c.Members=c from rfl,y2g hs hd hc,hu];rfl|some k=>obtain⟨h1,h2,_⟩:=q5v hu;obtain⟨q1,q2⟩:=qjd h1;have hp:=qkl h2;obtain⟨l,ih⟩:=qst hc n (s-2^k) (acc++[(k:Int)]) (by omega) (by omega) (q2.trans hd) (by simp;omega);refine⟨l,?_⟩;apply y93;rw[show Config.mk c.Members=c from rfl,y2g hs hd hc,hu];simp only[bS,nT,cF];rw[q06 (by simp[q07];omega),q0i (by omega),shl1 (by omega) (by omega),tN,qcs (by omega) (by omega),y29 h1];omega
theorem qh8(hs:s<1024)(hc:q31 c):z64 c (s:Int)=some ((q7d c s:Nat):Int):=by
 have hd:=qam c;have hlt:s&&&decl c<1024:=ych hs;obtain⟨l,h⟩:=qst hc 1024 (s&&&decl c) [] hlt hlt (Sub.and_right _ _) (by simp_all);have he:z71 c (s:Int)=some ((((elim c 1024 (s&&&decl c)).2:Nat):Int),l):=by apply yf6;rw[y33,ybx hs];simp only[bS,nT,cF];rw[qhj c hc.1];simp only[bS];rw[q9g (by omega) (by omega)];exact h
 apply yid;rw[he];rfl
end Go.Proofs.YtdmfjabikomgiaaGreat
namespace Go.Proofs.YtdmfjabikomgiaaGreat
open Go Go.Ab
variable {l : LI} {t x : Trust} {c : Config} {i : Int}
mutual
def wf : Trust -> Bool
 | ⟨thr, _, inner⟩ => decide (thr < 9223372036854775808) && wfs inner
def wfs : LT -> Bool
 | [] => true
 | x :: r => wf x && wfs r
end
theorem wf_eq(t:Trust):wf t=(decide (t.Threshold<9223372036854775808)&&wfs t.Inner):=by cases t;rfl
theorem ybu{l:LT}(h:wfs l=true):∀x∈l,wf x=true:=by induction l with|nil=>simp|cons y r ih=>simp only[wfs,aT]at h;grind
def Fits(t:Trust):Prop:=size t<1073741824
theorem Fits.small(h:Fits t):Small t:=by unfold Fits at h;unfold Small;omega
theorem Fits.mem(h:Fits t)(hx:x∈t.Inner):Fits x:=by unfold Fits at*;rw[q2a]at h;have:=qnu hx;omega
theorem ybw:∀t:Trust,Fits t->good t=true->wf t=true:=by
 apply Trust.ind;intro t ih ht hg;have hsz:size t<1073741824:=ht;rw[q2a]at hsz;rw[qg9]at hg;simp only[aT,dT]at hg;obtain⟨g1,g2,g3,g4,g5⟩:=hg;rw[wf_eq];simp only[aT,dT];refine⟨by omega,?_⟩;have hin:∀l:LT,(∀x∈l,good x=true->wf x=true)->goods l=true->wfs l=true:=by intro l;induction l with|nil=>intro _ _;rfl|cons y r ihr=>intro h hgl;simp only[goods,aT]at hgl;simp only[wfs,h y (by simp) hgl.1,ihr (fun x hx=>h x (by grind)) hgl.2,Bool.and_self]
 exact hin t.Inner (fun x hx=>ih x hx (ht.mem hx)) g5
theorem q34(h:valid t=true):Fits t/\wf t=true:=by
 simp only[valid,aT,dT]at h;have hf:Fits t:=by unfold Fits;omega
 exact⟨hf,ybw t hf h.2.2⟩
def TB(t:Trust):Prop:=size t<1000000/\wf t=true
def CB(c:Config):Prop:=c.Members.length<1000/\∀m∈c.Members,TB m.Trust
theorem CB.small(h:CB c):q31 c:=⟨by have:=h.1;omega,fun m hm=>by have:=(h.2 m hm).1;unfold Small;omega⟩
theorem qs8{y y':Trust}:∀(l:LT)(i:Nat),l[i]?=some y->sizes (l.set i y')+size y=sizes l+size y'|[],i,h=>by grind|x::r,0,h=>by simp at h;subst h;simp only[List.set_cons_zero,sizes];omega|x::r,i+1,h=>by have:=qs8 (y':=y') r i (by simpa using h);simp only[List.set_cons_succ,sizes];omega
theorem y41{y':Trust}(hy:wf y'=true):∀(l:LT)(i:Nat),wfs l=true->wfs (l.set i y')=true|[],i,_=>rfl|x::r,0,h=>by simp only[wfs,aT]at h;simp only[List.set_cons_zero,wfs,hy,h.2,Bool.and_self]|x::r,i+1,h=>by simp only[wfs,aT]at h;simp only[List.set_cons_succ,wfs,h.1,y41 hy r i h.2,Bool.and_self]
theorem qg6(a b:LT):wfs (a++b)=(wfs a&&wfs b):=by induction a with|nil=>rfl|cons x r ih=>simp[wfs,ih,Bool.and_assoc]
theorem wf_mk{thr:Int}{a:LI}{b:LT}(h:thr<9223372036854775808)(hb:wfs b=true):wf ⟨thr,a,b⟩=true:=by rw[wf_eq];grind
theorem y3o{l:LI}(a8:Int)(a10:LI)(a12:LT)(a14:Int)(a16:LI)(a18:LT)(i:Int):∀(n:Nat)(t:Trust),n<1000000->wf t=true->∃y,z5d (n:Int) l i a8 a10 a12 a14 a16 a18 t.Threshold t.Nodes t.Inner=some (y,l,i)/\size y<=size t+n/\wf y=true
 |0,t,_,hw=>⟨t,by apply y9n;rw[q00 (by omega)];simp,by omega,hw⟩|n+1,t,hn,hw=>by
  obtain⟨y,h1,h2,h3⟩:=y3o a8 a10 a12 a14 a16 a18 i n ⟨1,[],[t]⟩ (by omega) (wf_mk (by omega) (by simp[wfs,hw]));refine⟨y,?_,?_,h3⟩;·apply y9n;rw[q04 (by omega),q46 (by omega) (by omega),show(((n+1:Nat):Int)-1)=((n:Nat):Int)by omega];simp only[cT,Trust.eta];omega
  .simp[size,sizes]at h2;omega
theorem ycb(a8:Int)(a10:LI)(a12:LT)(a14:Int)(a16:LI)(a18:LT)(i:Int)(n:Nat)(t:Trust)(hn:n<1000000)(hw:wf t=true):∃y,z4b (n:Int) l i a8 a10 a12 a14 a16 a18 t.Threshold t.Nodes t.Inner=some (y,l,i)/\size y<=size t+n/\wf y=true:=by cases n with|zero=>exact⟨t,by apply y9r;rw[q00 (by omega)];simp,by omega,hw⟩|succ n=>
  obtain⟨y,h1,h2,h3⟩:=y3o (l:=l) a8 a10 a12 a14 a16 a18 i n ⟨1,[],[t]⟩ (by omega) (wf_mk (by omega) (by simp[wfs,hw]));refine⟨y,?_,?_,h3⟩;·apply y9r;rw[q04 (by omega),q46 (by omega) (by omega),show(((n+1:Nat):Int)-1)=((n:Nat):Int)by omega];simp_all
  .simp[size,sizes]at h2;omega
theorem y2a{l:LI}(i:Int)(thr:Int)(nodes:LI)(inner:LT)(a16:Int)(a18:LI)(a20:LT)(ht:thr<9223372036854775808)(hi:wfs inner=true)(hl:inner.length<1000000):∀(n:Nat)(acc:LT),n+acc.length<1000000->wfs acc=true->∃y,z35 acc (n:Int) l i thr nodes inner a16 a18 a20=some (y,l,i)/\size y<=nodes.length+inner.length+sizes inner+acc.length+sizes acc+2*n/\wf y=true
 |0,acc,hn,ha=>⟨⟨thr,nodes,acc++inner⟩,by apply yax;rw[q00 (by omega)];simp only[cF];rw[q06 (by simp[q07];omega)],by simp[size,q7m];omega,wf_mk ht (by rw[qg6,ha,hi];rfl)⟩|n+1,acc,hn,ha=>by
  obtain⟨y,h1,h2,h3⟩:=y2a i thr nodes inner a16 a18 a20 ht hi hl n (acc++[⟨1,[remI .i64 ((n+1:Nat):Int) 10],[]⟩]) (by grind) (by rw[qg6,ha];rfl);refine⟨y,?_,?_,h3⟩;·apply yax;rw[q04 (by omega),q46 (by omega) (by omega),show(((n+1:Nat):Int)-1)=((n:Nat):Int)by omega];simp only[cT];rw[q06 (by simp[q07];omega)];omega
  .simp[q7m,size,sizes]at h2;omega
theorem qvt(hs:size x<1000000)(hw:wf x=true)(h:q0n l i):∃y j,(Option.bind (z0c 6 l i) fun x10=>bif(eqB x10.1 0)then Option.bind (z0k ([0,(-1),(addI .i64 ((List.length x.Nodes:Nat):Int) ((List.length x.Inner:Nat):Int)),(addI .i64 (addI .i64 ((List.length x.Nodes:Nat):Int) ((List.length x.Inner:Nat):Int)) 1)]:List (Int)) x10.2.1 x10.2.2) fun x11=>some ((Trust.mk x11.1 x.Nodes x.Inner),x11.2.1,x11.2.2)else bif(eqB x10.1 1)then capOk (List.length ([]:List (Int))+List.length x.Nodes)<|Option.bind (z0k ([(-1),0,9,10]:List (Int)) x10.2.1 x10.2.2) fun x12=>capOk (List.length (([]:List (Int))++x.Nodes)+List.length ([x12.1]:List (Int)))<|some ((Trust.mk x.Threshold ((([]:List (Int))++x.Nodes)++([x12.1]:List (Int))) x.Inner),x12.2.1,x12.2.2)else bif(eqB x10.1 2)then some ((Trust.mk x.Threshold ([]:List (Int)) x.Inner),x10.2.1,x10.2.2)else bif(eqB x10.1 3)then capOk (List.length ([]:List (Trust))+List.length x.Inner)<|capOk (List.length (([]:List (Trust))++x.Inner)+List.length ([(Trust.mk 0 ([]:List (Int)) ([]:List (Trust)))]:List (Trust)))<|some ((Trust.mk x.Threshold x.Nodes ((([]:List (Trust))++x.Inner)++([(Trust.mk 0 ([]:List (Int)) ([]:List (Trust)))]:List (Trust)))),x10.2.1,x10.2.2)else bif(eqB x10.1 4)then Option.bind (z0w 1 4 x10.2.1 x10.2.2) fun x13=>z4b x13.1 x13.2.1 x13.2.2 x.Threshold x.Nodes x.Inner 0 ([]:List (Int)) ([]:List (Trust)) x.Threshold x.Nodes x.Inner else Option.bind (z0k ([20,60,101]:List (Int)) x10.2.1 x10.2.2) fun x14=>z35 ([]:List (Trust)) x14.1 x14.2.1 x14.2.2 x.Threshold x.Nodes x.Inner 0 ([]:List (Int)) ([]:List (Trust)))=some (y,l,j)/\size y<=size x+1000/\wf y=true/\q0n l j:=by
 have hsz:=hs;rw[q2a]at hsz;have hw':=hw;rw[wf_eq,aT,dT]at hw';obtain⟨v,j,a1,a2,a3,a4⟩:=N_ok (n:=6) (by decide) (by decide) h;rw[a1];simp only[bS];by_cases h0:v=0;·subst h0;obtain⟨p,j2,b1,b2,b3⟩:=q4l (ps:=[0,(-1),(addI .i64 ((List.length x.Nodes:Nat):Int) ((List.length x.Inner:Nat):Int)),(addI .i64 (addI .i64 ((List.length x.Nodes:Nat):Int) ((List.length x.Inner:Nat):Int)) 1)]) (by simp) (by simp) a4;rw[b1];refine⟨⟨p,x.Nodes,x.Inner⟩,j2,rfl,by rw[q2a x];simp only[size];omega,wf_mk ?_ hw'.2,b3⟩;rw[q22 (by omega) (by omega),q22 (by omega) (by omega)]at b2;grind
 rw[q0d h0];simp only[cF];by_cases h1:v=1;·subst h1;obtain⟨p,j2,b1,b2,b3⟩:=q4l (ps:=[(-1),0,9,10]) (by simp) (by simp) a4;rw[b1,q06 (by simp[q07];omega)];simp only[bS,q0e,cT];rw[q06 (by simp[q07];omega)];exact⟨_,j2,rfl,by rw[q2a x];simp[size];omega,wf_mk hw'.1 hw'.2,b3⟩
 rw[q0d h1];simp only[cF];by_cases h2:v=2;·subst h2;exact⟨_,j,rfl,by rw[q2a x];simp[size];omega,wf_mk hw'.1 hw'.2,a4⟩
 rw[q0d h2];simp only[cF];by_cases h3:v=3;·subst h3;simp only[q0e,cT];rw[q06 (by simp[q07];omega),q06 (by simp[q07];omega)];exact⟨_,j,rfl,by rw[q2a x];simp[size,q7m,sizes];omega,wf_mk hw'.1 (by simp[qg6,hw'.2,wfs,wf]),a4⟩
 rw[q0d h3];simp only[cF];by_cases h4:v=4;·subst h4;obtain⟨p,j2,b1,b2,b3,b4⟩:=q68 (a:=1) (b:=4) (by decide) (by decide) (by decide) a4;obtain⟨n,rfl⟩:=Int.eq_ofNat_of_zero_le (show 0<=p by omega);obtain⟨y,c1,c2,c3⟩:=ycb (l:=l) x.Threshold x.Nodes x.Inner 0 [] [] j2 n x (by omega) hw;rw[b1];simp only[bS,q0e,cT];grind
 rw[q0d h4];simp only[cF];obtain⟨p,j2,b1,b2,b3⟩:=q4l (ps:=[20,60,101]) (by simp) (by simp) a4;have hp:0<=p/\p<=101:=by grind
 obtain⟨n,rfl⟩:=Int.eq_ofNat_of_zero_le hp.1;obtain⟨y,c1,c2,c3⟩:=y2a (l:=l) j2 x.Threshold x.Nodes x.Inner 0 [] [] hw'.1 hw'.2 (by omega) n [] (by grind) rfl;rw[b1];exact⟨y,j2,c1,by rw[q2a x];simp[sizes]at c2;omega,c3,b3⟩
theorem qv7:∀x:Trust,size x<1000000->wf x=true->∀i,q0n l i->∃y j,z3a x l i=some (y,l,j)/\size y<=size x+1000/\wf y=true/\q0n l j:=by
 apply Trust.ind;intro x ih hs hw i h;have hsz:=hs;rw[q2a]at hsz;have hw':=hw;rw[wf_eq,aT,dT]at hw';by_cases hne:0<x.Inner.length
 .obtain⟨v,j,a1,a2,a3,a4⟩:=N_ok (n:=2) (by decide) (by decide) h;by_cases h1:v=1
  .subst h1;obtain⟨p,j2,b1,b2,b3,b4⟩:=N_ok (n:=((x.Inner.length:Nat):Int)) (by omega) (by omega) a4;have hp:p.toNat<x.Inner.length:=by omega
   have hg:x.Inner[p.toNat]?=some x.Inner[p.toNat]:=List.getElem?_eq_getElem hp;have hm:=List.getElem_mem hp;generalize x.Inner[p.toNat]=y2 at hg hm;obtain⟨y,j3,c1,c2,c3,c4⟩:=ih y2 hm (by have:=qnu hm;omega) (ybu hw'.2 y2 hm) j2 b4;refine⟨⟨x.Threshold,x.Nodes,x.Inner.set p.toNat y⟩,j3,?_,?_,wf_mk hw'.1 (y41 c3 _ _ hw'.2),c4⟩;·apply y2r;rw[q04 (by omega),a1];simp only[bS,q0e,cT,List.nil_append];rw[q06 (by simp[q07];omega),b1];simp only[bS,q0m b2 hg,q2p hg];simp_all
   .have:=qs8 (y':=y) x.Inner p.toNat hg;rw[q2a x];simp only[size,List.length_set];omega
  .obtain⟨y,j2,b1,b2,b3,b4⟩:=qvt hs hw a4;refine⟨y,j2,?_,b2,b3,b4⟩;apply y2r;rw[q04 (by omega),a1];simp only[bS,q0d h1,cT,cF];omega
 .obtain⟨y,j2,b1,b2,b3,b4⟩:=qvt hs hw h;refine⟨y,j2,?_,b2,b3,b4⟩;apply y2r;rw[q00 (by omega)];simp_all
def nobody:Member:=⟨false,⟨0,[],[]⟩⟩
theorem qef:TB nobody.Trust:=⟨by simp[nobody,size,sizes],by rfl⟩
theorem qxh{l:LI}(a6 a8:LB)(i:Int):∀(n:Nat)(acc:LB),11-acc.length<=n->acc.length<900->(∀m∈acc,TB m.Trust)->∃q,z4r l i a6 a8 acc=some (⟨q⟩,l,i)/\q.length<1000/\∀m∈q,TB m.Trust
 |n,acc,hn,hl,ha=>by
  by_cases h:acc.length<=10;·obtain⟨n,rfl⟩:∃k,n=k+1:=⟨n-1,by omega⟩;obtain⟨q,h1,h2,h3⟩:=qxh (l:=l) a6 a8 i n (acc++[nobody]) (by grind) (by grind) (fun m hm=>by
    rcases List.mem_append.1 hm with hm|hm;·simp_all
    .rw[List.mem_singleton]at hm;subst hm;exact qef);refine⟨q,?_,h2,h3⟩;apply yat;rw[q0s (by omega)];simp only[cT];rw[q06 (by simp[q07];omega)];exact h1
  .refine⟨acc,?_,by omega,ha⟩;apply yat;rw[q0v (by omega)];rfl
theorem y6c(hl:c.Members.length<900)(hc:∀m∈c.Members,size m.Trust<900000/\wf m.Trust=true)(h:q0n l i):∃d j,z6u c l i=some (d,l,j)/\CB d/\q0n l j:=by
 have hT:∀m∈c.Members,TB m.Trust:=fun m hm=>⟨by grind,(hc m hm).2⟩;have setTB:∀(k:Nat)(m:Member),TB m.Trust->CB ⟨c.Members.set k m⟩:=fun k m hm=>⟨by grind,fun x hx=>by grind⟩;by_cases hne:c.Members.length=0
 .obtain⟨p,j,b1,b2,b3⟩:=q4l (ps:=[1,10,11]) (by simp) (by simp) h;have hp:0<=p/\p<=11:=by grind
  refine⟨⟨List.replicate p.toNat nobody⟩,j,?_,⟨by grind,fun m hm=>by rw[(List.mem_replicate.1 hm).2];exact qef⟩,b3⟩;apply y8w;simp only[List.nil_append,hne];rw[q06 (by simp)];simp only[Int.natCast_zero,q0e,cT];rw[b1];simp only[bS];rw[q0i ⟨trivial,hp.1,by omega⟩];rfl
 .obtain⟨p,j,b1,b2,b3,b4⟩:=N_ok (n:=((c.Members.length:Nat):Int)) (by omega) (by omega) h;have hp:p.toNat<c.Members.length:=by omega
  have hg:c.Members[p.toNat]?=some c.Members[p.toNat]:=List.getElem?_eq_getElem hp;have hm:=List.getElem_mem hp;generalize c.Members[p.toNat]=y at hg hm;obtain⟨v,j2,d1,d2,d3,d4⟩:=N_ok (n:=5) (by decide) (by decide) b4;have pre:∀r,(bif(eqB v 0)then nthN c.Members (Int.toNat p) fun y3=>nthN c.Members (Int.toNat p) fun y4=>some ((Config.mk (List.set c.Members (Int.toNat p) (Member.mk (!y3.Declared) (Trust.mk y4.Trust.Threshold y4.Trust.Nodes y4.Trust.Inner)))),l,j2)else bif(eqB v 1)then nthN c.Members (Int.toNat p) fun y5=>Option.bind (z3a y5.Trust l j2) fun x6=>nthN c.Members (Int.toNat p) fun y7=>some ((Config.mk (List.set c.Members (Int.toNat p) (Member.mk y7.Declared (Trust.mk x6.1.Threshold x6.1.Nodes x6.1.Inner)))),x6.2.1,x6.2.2)else bif(eqB v 2)then nthN c.Members (Int.toNat p) fun y8=>some ((Config.mk (List.set c.Members (Int.toNat p) (Member.mk y8.Declared (Trust.mk 1 ([((List.length c.Members:Nat):Int)]:List (Int)) ([]:List (Trust)))))),l,j2)else bif(eqB v 3)then hiK (List.length c.Members) (subI .i64 ((List.length c.Members:Nat):Int) 1) fun b9=>some ((Config.mk (List.drop 0 (List.take b9 c.Members))),l,j2)else z4n false l j2 c.Members ([]:List (Member)) c.Members)=some r->z6u c l i=some r:=by intro r hr;apply y8w;simp only[List.nil_append];rw[q06 (by simp[q07];omega),q0d (by omega)];simp only[cF];rw[b1];simp only[bS,q0m b2 hg];simp_all
  by_cases h0:v=0;·subst h0;refine⟨_,j2,pre _ (by simp only[q0e,cT,q2p hg,Trust.eta]),setTB p.toNat ⟨!y.Declared,y.Trust⟩ (hT y hm),d4⟩
  by_cases h1:v=1;·subst h1;obtain⟨z,j3,e1,e2,e3,e4⟩:=qv7 (l:=l) y.Trust (by grind) (hc y hm).2 j2 d4;refine⟨_,j3,pre _ (by simp only[q0d h0,q0e,cT,cF,q2p hg,e1,bS,Trust.eta]),setTB p.toNat ⟨y.Declared,z⟩ ⟨by grind,e3⟩,e4⟩
  by_cases h2:v=2;·subst h2;refine⟨_,j2,pre _ (by simp only[q0d h0,q0d h1,q0e,cT,cF,q2p hg]),setTB p.toNat ⟨y.Declared,⟨1,[((List.length c.Members:Nat):Int)],[]⟩⟩ ⟨by simp[size,sizes],by rfl⟩,d4⟩
  by_cases h3:v=3;·subst h3;refine⟨_,j2,pre _ (by simp only[q0d h0,q0d h1,q0d h2,q0e,cT,cF];rw[q46 (by omega) (by omega),qc5 (by omega) (by omega)]),⟨by grind,fun m hm=>hT m (List.mem_of_mem_take (List.mem_of_mem_drop hm))⟩,d4⟩
  have hl1:∃q,z4n false l j2 c.Members [] c.Members=some (⟨q⟩,l,j2)/\q.length<1000/\∀m∈q,TB m.Trust:=by
   by_cases h10:c.Members.length<=10;·obtain⟨q,h1,h2,h3⟩:=qxh (l:=l) c.Members [] j2 11 (c.Members++[nobody]) (by omega) (by grind) (fun m hm=>by
     rcases List.mem_append.1 hm with hm|hm;·simp_all
     .rw[List.mem_singleton]at hm;subst hm;exact qef);refine⟨q,?_,h2,h3⟩;apply y8v;rw[q0s (by omega)];simp only[cT];rw[q06 (by simp[q07];omega)];exact h1
   .refine⟨c.Members,?_,by omega,hT⟩;apply y8v;rw[q0v (by omega)];rfl
  obtain⟨q,e1,e2,e3⟩:=hl1;exact⟨⟨q⟩,j2,pre _ (by simp only[q0d h0,q0d h1,q0d h2,q0d h3,cF];omega),⟨e2,e3⟩,d4⟩
mutual
def raw : Trust -> Bool
 | ⟨thr, nodes, inner⟩ => decide (thr < 9223372036854775808) && (decide (nodes.length < 1152921504606846976) && (decide (inner.length < 1152921504606846976) && raws inner))
def raws : LT -> Bool
 | [] => true
 | x :: r => raw x && raws r
end
theorem yb9(t:Trust):raw t=(decide (t.Threshold<9223372036854775808)&&(decide (t.Nodes.length<1152921504606846976)&&(decide (t.Inner.length<1152921504606846976)&&raws t.Inner))):=by cases t;rfl
theorem y78{l:LT}(h:raws l=true):∀x∈l,raw x=true:=by induction l with|nil=>simp|cons y r ih=>simp only[raws,aT]at h;grind
theorem qn1:∀t:Trust,raw t=true->∀n:Nat,n<=400->∃m:Nat,z8u t (n:Int)=some ((m:Nat):Int)/\n+1<=m/\m<1152921504606847378/\(m<=400->n+size t+1<=m):=by
 apply Trust.ind;intro t ih h n hn;rw[yb9]at h;simp only[aT,dT]at h;obtain⟨_,hN,hI,hR⟩:=h;have l1:∀(suf:LT)(i m0:Nat),t.Inner.drop i=suf->m0<1152921504606847378->∃m:Nat,z5o ((m0:Nat):Int) (i:Int) t.Threshold t.Nodes t.Inner=some ((m:Nat):Int)/\m0<=m/\m<1152921504606847378/\(m<=400->m0+suf.length+sizes suf<=m):=by intro suf;induction suf with|nil=>intro i m0 hd hm;refine⟨m0,?_,Nat.le_refl _,hm,fun _=>by simp[sizes]⟩;apply y49;simp only[q0c hd,cF]|cons y suf ihs=>
   intro i m0 hd hm;have hlt:=q09 hd;have hy:y∈t.Inner:=List.mem_of_mem_drop (by rw[hd];exact List.mem_cons_self);by_cases h4:m0<=400
   .obtain⟨m1,e1,e2,e3,e4⟩:=ih y hy (y78 hR y hy) m0 h4;obtain⟨m,f1,f2,f3,f4⟩:=ihs (i+1) m1 (q01 hd) e3;refine⟨m,?_,by omega,f3,fun hm=>?_⟩;·apply y49;simp only[q05 hd,cT,q0s (show((m0:Nat):Int)<=400 by omega),q02 hd,e1,bS,q03 (show i<4611686018427387904 by omega)];exact f1
    .have:=f4 hm;have:=e4 (by omega);simp only[List.length_cons,sizes];omega
   .refine⟨m0,?_,Nat.le_refl _,hm,fun hh=>by omega⟩;apply y49;simp only[q05 hd,cT,q0v (show(400:Int)<((m0:Nat):Int)by omega),cF]
 obtain⟨m,f1,f2,f3,f4⟩:=l1 t.Inner 0 (n+(1+t.Nodes.length)) rfl (by omega);refine⟨m,?_,by omega,f3,fun hm=>by have:=f4 hm;rw[q2a];omega⟩;apply yd8;rw[q22 (a:=1) (by omega) (by omega),q22 (by omega) (by omega),show(n:Int)+(1+((t.Nodes.length:Nat):Int))=((n+(1+t.Nodes.length):Nat):Int)by omega];omega
theorem qj6(h:raw t=true):∃b,z6v t=some b/\(b=true->size t<=400):=by
 obtain⟨m,e1,e2,e3,e4⟩:=qn1 t h 0 (by decide);refine⟨leB ((m:Nat):Int) 400,?_,fun hb=>?_⟩;·apply yik;simp_all
 .have:m<=400:=by simp[leB]at hb;omega
  omega
theorem y5g(h:∀m∈c.Members,raw m.Trust=true):∃b,z7f c=some b/\(b=true->c.Members.length<=30/\∀m∈c.Members,size m.Trust<=400):=by
 by_cases hl:30<c.Members.length;·refine⟨false,?_,fun h=>by cases h⟩;apply yay;rw[q04 (by omega)];rfl
 .have l1:∀(suf:LB)(i m0:Nat),c.Members.drop i=suf->m0<1152921504606847378->∃b,z2u ((m0:Nat):Int) (i:Int) c.Members=some b/\(b=true->m0<=400/\∀m∈suf,size m.Trust<=400):=by intro suf;induction suf with|nil=>intro i m0 hd hm;refine⟨leB ((m0:Nat):Int) 400,?_,fun hb=>⟨by simp[leB]at hb;omega,fun m hm=>by cases hm⟩⟩;apply y5c;simp only[q0c hd,cF]|cons y suf ihs=>
    intro i m0 hd hm;have hlt:=q09 hd;have hy:y∈c.Members:=List.mem_of_mem_drop (by rw[hd];exact List.mem_cons_self);by_cases h4:m0<=400
    .obtain⟨m1,e1,e2,e3,e4⟩:=qn1 y.Trust (h y hy) m0 h4;obtain⟨b,f1,f2⟩:=ihs (i+1) m1 (q01 hd) e3;refine⟨b,?_,fun hb=>⟨h4,fun m hm=>?_⟩⟩;·apply y5c;simp only[q05 hd,cT,q0s (show((m0:Nat):Int)<=400 by omega),q02 hd,e1,bS,q03 (show i<4611686018427387904 by omega)];exact f1
     .obtain⟨g1,g2⟩:=f2 hb;rcases List.mem_cons.1 hm with rfl|hm;·have:=e4 g1;omega
      .exact g2 m hm
    .refine⟨false,?_,fun h=>by cases h⟩;apply y5c;simp only[q05 hd,cT,q0v (show(400:Int)<((m0:Nat):Int)by omega),cF]
  obtain⟨b,f1,f2⟩:=l1 c.Members 0 0 rfl (by omega);refine⟨b,?_,fun hb=>⟨by omega,(f2 hb).2⟩⟩;apply yay;rw[q00 (by omega)];grind
theorem qne(h:valid t=true):size t<=200:=by simp only[valid,aT,dT]at h;omega
theorem ConfOk.CB'{n:Nat}(h:ConfOk n c)(hn:n<=10):c.Members.length<900/\∀m∈c.Members,size m.Trust<900000/\wf m.Trust=true:=by
 refine⟨by have:=h.le;omega,fun m hm=>?_⟩;have:=h.mem m hm;unfold MemOk at this;split at this;·exact⟨by have:=qne this.1;omega,(q34 this.1).2⟩
 .rw[this];exact⟨by simp[blank,size,sizes],by rfl⟩
def Bears(c:Config):Prop:=c.Members.length<1073741824/\∀m∈c.Members,Fits m.Trust/\wf m.Trust=true
theorem qzl{t:Trust}(h:valid t=true):good t=true:=by simp only[valid,aT]at h;simp_all
variable {m : Message} {k : Int} {t : Trust}
noncomputable instance:DecidableEq Trust:=fun a b=>Classical.propDecidable (a=b)
theorem Trust.etaM(t:Trust):Trust.mk t.Threshold t.Nodes t.Inner=t:=by simp
theorem qak(t:Trust):eqB (verr t) 0=valid t:=by have:=q4v t;cases h:valid t with|true=>rw[h]at this;simp[eqB,this.2 rfl]|false=>rw[h]at this;simp only[fT,iff_false]at this;simp[eqB,this]
theorem qqc(t:Trust):neB (verr t) 0=!valid t:=by rw[<-qak];rfl
theorem qq5(l k:LI)(hl:l.length<1152921504606846976)(hk:l.length=k.length):∀(suf suk:LI)(i:Nat),l.drop i=suf->k.drop i=suk->z1h l k ((l.length:Nat):Int) (i:Int)=some (decide (suf=suk))
 |[],suk,i,h,h'=>by
  have:suk=[]:=by rw[<-h',List.drop_eq_nil_iff,<-hk];simp_all
  subst this;apply ya8;rw[q0c h];simp|y::suf,[],i,h,h'=>by have:=q09 h;have:=List.drop_eq_nil_iff.1 h';omega|y::suf,z::suk,i,h,h'=>by
  have hlt:=q09 h;apply ya8;rw[q05 h,cT,q02 h,q02 h',q03 (by omega),qq5 l k hl hk suf suk (i+1) (q01 h) (q01 h')];by_cases hx:y=z;·subst hx;rw[q0g];simp
  .rw[q1c hx];simp[hx]
theorem y11(l k:LI)(hl:l.length<1152921504606846976):z41 l k=some (decide (l=k)):=by
 apply ydw;by_cases hk:l.length=k.length;·rw[hk,q0g,cF,<-hk];exact qq5 l k hl hk l k 0 rfl rfl
 .rw[q1c (by omega),cT];have:l≠k:=fun e=>hk (by rw[e]);grind
theorem y31(l k:LT)(hl:l.length<1152921504606846976)(hk:l.length=k.length)(hf:∀x∈l,∀y,z3x x y=some (decide (x=y))):∀(suf suk:LT)(i:Nat),l.drop i=suf->k.drop i=suk->z03 k l ((l.length:Nat):Int) (i:Int)=some (decide (suf=suk))
 |[],suk,i,h,h'=>by
  have:suk=[]:=by rw[<-h',List.drop_eq_nil_iff,<-hk];simp_all
  subst this;apply yb5;rw[q0c h];simp|y::suf,[],i,h,h'=>by have:=q09 h;have:=List.drop_eq_nil_iff.1 h';omega|y::suf,z::suk,i,h,h'=>by have hlt:=q09 h;apply yb5;rw[q05 h,cT,q02 h,q02 h',hf y (List.mem_of_mem_drop (i:=i) (by grind)),bS,q03 (by omega),y31 l k hl hk hf suf suk (i+1) (q01 h) (q01 h')];by_cases hx:y=z<;>simp[hx]
theorem qph:∀a:Trust,Small a->∀b:Trust,z3x a b=some (decide (a=b)):=by
 apply Trust.ind;intro a ih ha b;have hn:=ha.nodes;have hi:=ha.inner;apply yhm;have h1:z0j a.Inner b.Inner=some (decide (a.Inner=b.Inner)):=by
  apply yi1;by_cases hk:a.Inner.length=b.Inner.length;·rw[hk,q0g,cF,<-hk];exact y31 a.Inner b.Inner hi hk (fun x hx y=>ih x hx (ha.mem hx) y) a.Inner b.Inner 0 rfl rfl
  .rw[q1c (by omega),cT];have:a.Inner≠b.Inner:=fun e=>hk (by rw[e]);grind
 rw[y11 _ _ hn,h1];cases a;cases b;simp only[Trust.mk.injEq,bS];rename_i t n i t' n' i';by_cases h1:t=t'<;>by_cases h2:n=n'<;>by_cases h3:i=i'<;>simp[eqB,h1,h2,h3]
theorem qfb(a:Trust)(ha:Small a)(b:Trust):z2l a b=some (decide (a=b)):=by obtain⟨r,h1,h2⟩:=y1c a ha b;grind
def msgB(m:Message):Bool:=inR m.Node&&(decide (1<=m.Seq)&&(valid m.Trust&&(plainC m.Votes&&plainC m.Accepts)))
structure SmallM(m:Message):Prop where
 tr:Small m.Trust
 votes:m.Votes.length<1000000
 accs:m.Accepts.length<1000000
theorem q4f{l:LC}(h:plainC l=true):l.length<=128:=by rw[<-qzx h];exact q42 l
theorem q3f:msgB m=true↔inR m.Node=true/\1<=m.Seq/\valid m.Trust=true/\plainC m.Votes=true/\plainC m.Accepts=true:=by simp[msgB]
theorem q19(h:msgB m=true):SmallM m:=by obtain⟨_,_,h1,h2,h3⟩:=q3f.1 h;have:=q4f h2;have:=q4f h3;exact⟨q3j h1,by omega,by omega⟩
theorem qwb(k:Int):z7h k=some (inR k):=by
 apply yf8;by_cases h:0<=k;·simp[leB,ltB,inR,h]
 .simp[leB,ltB,inR,h]
theorem qdb(h:SmallM m):z2d m=some (msgB m):=by apply yfe;rw[qwb,q9a _ h.tr,qau _ (by have:=h.votes;omega),qau _ (by have:=h.accs;omega)];simp only[bS,qak,msgB,leB];cases inR m.Node<;>cases decide (1<=m.Seq)<;>cases valid m.Trust<;>cases plainC m.Votes<;>rfl
theorem qdg(h:SmallM m):z3q m=some (msgB m):=by apply yh8;rw[q92 _ h.tr,qb9 _ (by have:=h.votes;omega),qb9 _ (by have:=h.accs;omega)];simp only[bS,qak,msgB,leB,ltB,inR];cases decide (0<=m.Node)<;>cases decide (m.Node<10)<;>cases decide (1<=m.Seq)<;>cases valid m.Trust<;>cases plainC m.Votes<;>rfl
theorem qnk:∀t:Trust,Fits t->z4q t=some t:=by
 apply Trust.ind;intro t ih ht;have hsz:size t<1073741824:=ht;rw[q2a]at hsz;have l1:∀(suf:LT)(i:Nat)(acc:LT)(a8:Int)(a10:LI)(a12:LT)(a14:Int)(a16:LI)(a18:LT)(a20:Int)(a22:LI),t.Inner.drop i=suf->acc.length<=i->z34 t.Inner ((t.Inner.length:Nat):Int) (i:Int) a8 a10 a12 a14 a16 a18 a20 a22 acc=some ⟨a20,a22,acc++suf⟩:=by intro suf;induction suf with|nil=>intro i acc a8 a10 a12 a14 a16 a18 a20 a22 h ha;apply y8k;simp only[q0c h,cF,List.append_nil]|cons y suf ihs=>intro i acc a8 a10 a12 a14 a16 a18 a20 a22 h ha;have hlt:=q09 h;have hy:y∈t.Inner:=List.mem_of_mem_drop (by rw[h];simp);apply y8k;simp only[q05 h,cT,q02 h,ih y hy (ht.mem hy),bS,q03 (show i<4611686018427387904 by omega),Trust.etaM];rw[q06 (by simp[q07];omega),ihs (i+1) (acc++[y]) _ _ _ _ _ _ _ _ (q01 h) (by simp_all)];simp
 apply yhv;rw[q06 (by simp[q07];omega),show(0:Int)=((0:Nat):Int)from rfl,l1 t.Inner 0 [] _ _ _ _ _ _ _ _ rfl (Nat.le_refl _)];simp
def seeM(ms:LB)(m:Message):LB:=ms.set m.Node.toNat ⟨true,m.Trust⟩
def viewC(v:Int)(t:Trust)(l:LM):Config:=⟨(l.foldl seeM (List.replicate 10 ⟨false,⟨0,[],[]⟩⟩)).set v.toNat ⟨true,t⟩⟩
theorem q93(h:inR k=true):0<=k/\k.toNat<10:=by simp[inR]at h;omega
theorem qww{v:Int}{t:Trust}(hv:inR v=true)(ht:valid t=true)(l:LM)(hl:l.length<1152921504606846976)(hm:∀m∈l,msgB m=true/\m.Node≠v):∀(suf:LM)(i:Nat)(ms:LB)(a17:LB),l.drop i=suf->ms.length=10->z29 v l ((l.length:Nat):Int) (i:Int) t.Threshold t.Nodes t.Inner a17 ms=some ⟨(suf.foldl seeM ms).set v.toNat ⟨true,t⟩⟩|[],i,ms,a17,h,hms=>by obtain⟨h0,h10⟩:=q93 hv;apply y8h;rw[q0c h,cF,qwb,bS,hv,cT,Trust.etaM,q9a _ (q3j ht),bS,qak,ht,cT,qnk _ (q34 ht).1,bS,Trust.etaM,q0m (y:=ms[v.toNat]'(by omega)) h0 (by simp),q2p (y:=ms[v.toNat]'(by omega)) (by simp)];rfl|m::suf,i,ms,a17,h,hms=>by have hlt:=q09 h;obtain⟨g1,g2⟩:=hm m (List.mem_of_mem_drop (i:=i) (by grind));obtain⟨k1,_,k3,_⟩:=q3f.1 g1;obtain⟨h0,h10⟩:=q93 k1;apply y8h;rw[q05 h,cT,q02 h,q1c g2,cT,qdb (q19 g1),bS,g1,cT,qnk _ (q34 k3).1,bS,Trust.etaM,q0m (y:=ms[m.Node.toNat]'(by omega)) h0 (by simp),q2p (y:=ms[m.Node.toNat]'(by omega)) (by simp),q03 (by omega),qww hv ht l hl hm suf (i+1) _ a17 (q01 h) (by grind)];rfl
theorem y5y{v:Int}(hv:inR v=true)(ht:valid t=true)(l:LM)(hl:l.length<1152921504606846976)(hm:∀m∈l,msgB m=true/\m.Node≠v):z7i v t l=some (viewC v t l):=by apply yhi;exact qww hv ht l hl hm l 0 _ _ rfl rfl
theorem qwq{v:Int}{t:Trust}(hv:inR v=true)(ht:valid t=true)(l:LM)(hl:l.length<1152921504606846976)(hm:∀m∈l,msgB m=true/\m.Node≠v):∀(suf:LM)(i:Nat)(ms:LB)(a17:LB),l.drop i=suf->ms.length=10->z5w v l ((l.length:Nat):Int) (i:Int) t.Threshold t.Nodes t.Inner a17 ms=some ⟨(suf.foldl seeM ms).set v.toNat ⟨true,t⟩⟩|[],i,ms,a17,h,hms=>by obtain⟨h0,h10⟩:=q93 hv;apply y9t;rw[q0c h,cF,q0s h0,cT,q04 (by omega),cT,q0m (y:=ms[v.toNat]'(by omega)) h0 (by simp),q2p (y:=ms[v.toNat]'(by omega)) (by simp),Trust.etaM,q92 _ (q3j ht),bS,qak,ht,cT,q0m (y:=⟨false,⟨0,[],[]⟩⟩) h0 (by grind),q2p (y:=⟨false,⟨0,[],[]⟩⟩) (by grind),List.set_set];rfl|m::suf,i,ms,a17,h,hms=>by have hlt:=q09 h;obtain⟨g1,g2⟩:=hm m (List.mem_of_mem_drop (i:=i) (by grind));obtain⟨k1,_,k3,_⟩:=q3f.1 g1;obtain⟨h0,h10⟩:=q93 k1;apply y9t;rw[q05 h,cT,q02 h,qdg (q19 g1),bS,g1,cT,Trust.etaM,q0m (y:=ms[m.Node.toNat]'(by omega)) h0 (by simp),q2p (y:=ms[m.Node.toNat]'(by omega)) (by simp),q03 (by omega),qwq hv ht l hl hm suf (i+1) _ a17 (q01 h) (by grind)];rfl
theorem qwn{v:Int}(hv:inR v=true)(ht:valid t=true)(l:LM)(hl:l.length<1152921504606846976)(hm:∀m∈l,msgB m=true/\m.Node≠v):z8a v t l=some (viewC v t l):=by apply yfx;exact qwq hv ht l hl hm l 0 _ _ rfl rfl
def who(p:Message->Bool)(l:LM):Nat:=l.foldl (fun s m=>if p m then s|||bit m.Node else s) 0
def whoF(p:Message->Bool)(s:Nat)(l:LM):Nat:=l.foldl (fun s m=>if p m then s|||bit m.Node else s) s
def votes(l:LM)(x:Claim):Nat:=who (fun m=>decide (x∈m.Votes)) l
def q1p(l:LM)(x:Claim):Nat:=who (fun m=>decide (x∈m.Accepts)) l
theorem qbd(p:Message->Bool)(s:Nat)(m:Message)(l:LM):whoF p s (m::l)=whoF p (if p m then s|||bit m.Node else s) l:=rfl
theorem quk(p:Message->Bool):∀(l:LM)(s:Nat),s<1024->(∀m∈l,inR m.Node=true)->whoF p s l<1024
 |[],s,h,_=>h|m::l,s,h,hm=>by
  rw[qbd];refine quk p l _ ?_ fun m hm'=>hm m (by grind);split;·exact or_lt h (q9q (hm m (by simp)))
  omega
theorem shlOr{s:Nat}(hs:s<1024)(h:inR k=true):orI .i64 (s:Int) (shlI .i64 1 k)=((s|||bit k:Nat):Int):=by have:=q9q h;rw[qgc h,q3a (by omega) (by omega)]
section
variable (l : LM) (hl : l.length < 1152921504606846976) (hm : ∀ m ∈ l, msgB m = true) (x : Claim)
include hl hm
theorem qky:∀(suf:LM)(i s:Nat),l.drop i=suf->s<1024->z0g (s:Int) l ((l.length:Nat):Int) (i:Int) x.Topic x.Value=some ((whoF (fun m=>decide (x∈m.Votes)) s suf:Nat):Int)
 |[],i,s,h,hs=>by apply ya9;rw[q0c h];rfl|m::suf,i,s,h,hs=>by
  have hlt:=q09 h;have g1:=hm m (List.mem_of_mem_drop (i:=i) (by grind));obtain⟨k1,_⟩:=q3f.1 g1;have hf:z74 m=some m.Votes:=yg1 _ _ rfl;have hsm:=(q19 g1).votes;apply ya9;rw[q05 h,cT,q02 h,qdb (q19 g1),bS,g1,cT,hf,bS,show Claim.mk x.Topic x.Value=x from rfl,qjp _ (by omega),bS,q03 (by omega),qbd,q0i (q93 k1).1,shlOr hs k1];by_cases hx:x∈m.Votes;·simp only[hx,decide_true,cT,if_true];exact qky suf (i+1) _ (q01 h) (or_lt hs (q9q k1))
  .simp only[hx,decide_false,cF,fT,if_false];exact qky suf (i+1) _ (q01 h) hs
theorem y22:z85 l x=some ((votes l x:Nat):Int):=by apply yf4;have h:z1g l x=some ((votes l x:Nat):Int):=yfm _ _ _ (qky l hl hm x l 0 0 rfl (by decide));grind
theorem qoj:∀(suf:LM)(i s:Nat),l.drop i=suf->s<1024->z0e (s:Int) l ((l.length:Nat):Int) (i:Int) x.Topic x.Value=some ((whoF (fun m=>decide (x∈m.Accepts)) s suf:Nat):Int)
 |[],i,s,h,hs=>by apply y8u;rw[q0c h];rfl|m::suf,i,s,h,hs=>by
  have hlt:=q09 h;have g1:=hm m (List.mem_of_mem_drop (i:=i) (by grind));obtain⟨k1,_⟩:=q3f.1 g1;have hf:z5e m=some m.Accepts:=yhb _ _ rfl;have hsm:=(q19 g1).accs;apply y8u;rw[q05 h,cT,q02 h,qdb (q19 g1),bS,g1,cT,hf,bS,show Claim.mk x.Topic x.Value=x from rfl,qjp _ (by omega),bS,q03 (by omega),qbd,q0i (q93 k1).1,shlOr hs k1];by_cases hx:x∈m.Accepts;·simp only[hx,decide_true,cT,if_true];exact qoj suf (i+1) _ (q01 h) (or_lt hs (q9q k1))
  .simp only[hx,decide_false,cF,fT,if_false];exact qoj suf (i+1) _ (q01 h) hs
theorem qx0:z4w l x=some ((q1p l x:Nat):Int):=by apply yi7;have h:z18 l x=some ((q1p l x:Nat):Int):=ye6 _ _ _ (qoj l hl hm x l 0 0 rfl (by decide));grind
theorem qk3:∀(suf:LM)(i s:Nat),l.drop i=suf->s<1024->z40 (s:Int) l ((l.length:Nat):Int) (i:Int) x.Topic x.Value=some ((whoF (fun m=>decide (x∈m.Votes)) s suf:Nat):Int)
 |[],i,s,h,hs=>by apply y9p;rw[q0c h];rfl|m::suf,i,s,h,hs=>by
  have hlt:=q09 h;have g1:=hm m (List.mem_of_mem_drop (i:=i) (by grind));obtain⟨k1,_⟩:=q3f.1 g1;have hsm:=(q19 g1).votes;apply y9p;rw[q05 h,cT,q02 h,qdg (q19 g1),bS,g1,cT,show Claim.mk x.Topic x.Value=x from rfl,qa0 _ (by omega),bS,q03 (by omega),qbd,q0i (q93 k1).1,shlOr hs k1];by_cases hx:x∈m.Votes;·simp only[hx,decide_true,cT,if_true];exact qk3 suf (i+1) _ (q01 h) (or_lt hs (q9q k1))
  .simp only[hx,decide_false,cF,fT,if_false];exact qk3 suf (i+1) _ (q01 h) hs
theorem y54:z9m l x=some ((votes l x:Nat):Int):=yhu _ _ _ (qk3 l hl hm x l 0 0 rfl (by decide))
theorem qo9:∀(suf:LM)(i s:Nat),l.drop i=suf->s<1024->z2a (s:Int) l ((l.length:Nat):Int) (i:Int) x.Topic x.Value=some ((whoF (fun m=>decide (x∈m.Accepts)) s suf:Nat):Int)
 |[],i,s,h,hs=>by apply y9k;rw[q0c h];rfl|m::suf,i,s,h,hs=>by
  have hlt:=q09 h;have g1:=hm m (List.mem_of_mem_drop (i:=i) (by grind));obtain⟨k1,_⟩:=q3f.1 g1;have hsm:=(q19 g1).accs;apply y9k;rw[q05 h,cT,q02 h,qdg (q19 g1),bS,g1,cT,show Claim.mk x.Topic x.Value=x from rfl,qa0 _ (by omega),bS,q03 (by omega),qbd,q0i (q93 k1).1,shlOr hs k1];by_cases hx:x∈m.Accepts;·simp only[hx,decide_true,cT,if_true];exact qo9 suf (i+1) _ (q01 h) (or_lt hs (q9q k1))
  .simp only[hx,decide_false,cF,fT,if_false];exact qo9 suf (i+1) _ (q01 h) hs
theorem qw4:z7n l x=some ((q1p l x:Nat):Int):=yd5 _ _ _ (qo9 l hl hm x l 0 0 rfl (by decide))
end
theorem qxy{l:LM}(hm:∀m∈l,msgB m=true)(x:Claim):votes l x<1024:=quk _ l 0 (by decide) fun m h=>(q3f.1 (hm m h)).1
theorem q9d{l:LM}(hm:∀m∈l,msgB m=true)(x:Claim):q1p l x<1024:=quk _ l 0 (by decide) fun m h=>(q3f.1 (hm m h)).1
def accB(c:Config)(v:Nat)(vs ac:Nat):Bool:=blk c v ac||(q7d c (vs|||ac)).testBit v
def confB(c:Config)(v:Nat)(ac:Nat):Bool:=(q7d c ac).testBit v
section
variable {c : Config} (hc : q31 c) {vs ac : Nat} (hv : vs < 1024) (ha : ac < 1024) {v : Nat} (hn : v < 10)
include hc ha hn
theorem y7h:z4z c (v:Int) (ac:Int)=some (confB c v ac):=by apply yf9;rw[qh8 ha hc,bS,q1i (q9f c ha),q76 hn];rfl
theorem y67:z7o c (v:Int) (ac:Int)=some (confB c v ac):=by apply yfp;rw[qjo ha hc,bS,q1b (q9f c ha),q76 hn];rfl
include hv
theorem y7r:z5l c (v:Int) (vs:Int) (ac:Int)=some (accB c v vs ac):=by apply yen;rw[q3n hv,q3n ha,y05 hc ha,q3a (by omega) (by omega),qh8 (or_lt hv ha) hc];simp only[bS,q1i (q9f c (or_lt hv ha)),q76 hn,accB];cases blk c v ac<;>rfl
theorem y6r:z84 c (v:Int) (vs:Int) (ac:Int)=some (accB c v vs ac):=by apply yiq;rw[q2x hv,q2x ha,qtx hc ha,q3a (by omega) (by omega),qjo (or_lt hv ha) hc];simp only[bS,q1b (q9f c (or_lt hv ha)),q76 hn,accB];cases blk c v ac<;>rfl
end
theorem qf6{t:Member}:∀(l:LM)(ms:LB),t∈l.foldl seeM ms->t∈ms\/∃m∈l,t=⟨true,m.Trust⟩
 |[],ms,h=>.inl h|m::l,ms,h=>by
  rcases qf6 l _ h with h|⟨m',h1,h2⟩
  .rcases List.mem_or_eq_of_mem_set h with h|h;·exact .inl h
   simp_all
  grind
theorem qek:∀(l:LM)(ms:LB),(l.foldl seeM ms).length=ms.length|[],_=>rfl|m::l,ms=>by rw[List.foldl_cons,qek l];simp[seeM]
theorem qvo{v:Int}(ht:valid t=true){l:LM}(hm:∀m∈l,msgB m=true):q31 (viewC v t l):=by
 refine⟨by simp[viewC,qek],fun m h=>?_⟩;rcases List.mem_or_eq_of_mem_set h with h|h
 .rcases qf6 l _ h with h|⟨m',h1,h2⟩;·rw[List.eq_of_mem_replicate h];simp[Small,size,sizes]
  .rw[h2];exact(q19 (hm m' h1)).tr
 .rw[h];exact q3j ht
variable {v : Voter}
def say(v:Voter):Message:=⟨v.Node,v.Seq,v.Trust,v.Votes,v.Accepts⟩
def q3v(n:Int):Option Int->LM->Bool|_,[]=>true|none,m::r=>msgB m&&(!decide (m.Node=n)&&q3v n (some m.Node) r)|some q,m::r=>msgB m&&(!decide (m.Node=n)&&(decide (q<m.Node)&&q3v n (some m.Node) r))
structure SmallV(v:Voter):Prop where
 tr:Small v.Trust
 votes:v.Votes.length<1000000
 accs:v.Accepts.length<1000000
 confs:v.Confirms.length<1000000
 heard:v.Heard.length<1000000
 msgs:∀m∈v.Heard,SmallM m
def q21(v:Voter):Bool:=inR v.Node&&(decide (1<=v.Seq)&&(decide (v.Seq<=1000000)&&(valid v.Trust&&(plainC v.Votes&&(plainC v.Accepts&&(plainC v.Confirms&&(consC v.Votes&&(consC v.Accepts&&(v.Confirms.all (fun x=>decide (x∈v.Accepts))&&q3v v.Node none v.Heard)))))))))
theorem q3c{n:Int}:∀{l:LM}{q:Option Int},q3v n q l=true↔(∀m∈l,msgB m=true/\m.Node≠n)/\(∀k,q=some k->∀m∈l,k<m.Node)/\l.Pairwise (fun a b=>a.Node<b.Node)
 |[],q=>by cases q<;>simp[q3v]|m::r,q=>by
  have ih:=q3c (n:=n) (l:=r) (q:=some m.Node);have h1:q3v n q (m::r)=true↔msgB m=true/\m.Node≠n/\(∀k,q=some k->k<m.Node)/\q3v n (some m.Node) r=true:=by cases q<;>simp[q3v]
  rw[h1,ih,List.pairwise_cons];grind
theorem qrf{n:Int}{l:LM}(h:q3v n none l=true):l.length<=10:=by obtain⟨h1,_,h3⟩:=q3c.1 h;have:=qdk (m:=10) (l:=l.map (·.Node)) (by decide) (fun k hk=>by obtain⟨m,hm,rfl⟩:=List.mem_map.1 hk;have:=(q3f.1 (h1 m hm).1).1;simpa[inR]using this) (List.pairwise_map.2 h3);grind
theorem y4j(l:LC)(v:Voter)(hl:l.length<1152921504606846976)(ha:v.Accepts.length<1000000):∀(suf:LC)(i:Nat),l.drop i=suf->∃r:Int,z09 l ((l.length:Nat):Int) (i:Int) v.Node v.Seq v.Trust.Threshold v.Trust.Nodes v.Trust.Inner v.Votes v.Accepts v.Confirms v.Heard=some (r,v.Node,v.Seq,v.Trust.Threshold,v.Trust.Nodes,v.Trust.Inner,v.Votes,v.Accepts,v.Confirms,v.Heard)/\leB 0 r=!(suf.all fun x=>decide (x∈v.Accepts))
 |[],i,h=>by refine⟨-1,y3t _ _ _ _ _ _ _ _ _ _ _ _ _ ?_,by rfl⟩;rw[q0c h];rfl|y::suf,i,h=>by
  have hlt:=q09 h;obtain⟨r,h1,h2⟩:=y4j l v hl ha suf (i+1) (q01 h);have hf:z8n y v.Node v.Seq v.Trust.Threshold v.Trust.Nodes v.Trust.Inner v.Votes v.Accepts v.Confirms v.Heard=some (!decide (y∈v.Accepts),v.Node,v.Seq,v.Trust.Threshold,v.Trust.Nodes,v.Trust.Inner,v.Votes,v.Accepts,v.Confirms,v.Heard):=by apply yil;rw[qjp _ (by omega)];rfl
  by_cases hy:y∈v.Accepts;·refine⟨r,y3t _ _ _ _ _ _ _ _ _ _ _ _ _ ?_,by rw[h2];simp[hy]⟩;rw[q05 h,cT,q02 h,hf,bS,q03 (by omega)];simp_all
  .refine⟨i,y3t _ _ _ _ _ _ _ _ _ _ _ _ _ ?_,by simp[hy,leB]⟩;rw[q05 h,cT,q02 h,hf,bS];simp_all
theorem y8a(v:Voter)(hl:v.Heard.length<1000000)(hm:∀m∈v.Heard,SmallM m):∀(suf:LM)(i:Nat)(z:Message),v.Heard[i]?=some z->v.Heard.drop (i+1)=suf->z1y v.Heard ((v.Heard.length:Nat):Int) ((i+1:Nat):Int) v.Node v.Seq v.Trust.Threshold v.Trust.Nodes v.Trust.Inner v.Votes v.Accepts v.Confirms v.Heard=some (q3v v.Node (some z.Node) suf)|[],i,z,hz,h=>by apply qws;rw[q0c h];rfl|y::suf,i,z,hz,h=>by have hlt:=q09 h;apply qws;rw[q05 h,cT,q02 h,qdb (hm y (List.mem_of_mem_drop (i:=i+1) (by simp_all))),bS,q04 (by omega),cT,q46 (by omega) (by omega),q0m (y:=z) (by omega) (by simp_all),q03 (by omega),y8a v hl hm suf (i+1) y (by have:=congrArg (·[0]?) h;grind) (q01 h)];rw[q3v,show leB y.Node z.Node=!decide (z.Node<y.Node)by by_cases h2:z.Node<y.Node<;>simp[leB,h2]<;>omega];simp only[eqB];cases msgB y<;>cases decide (y.Node=v.Node)<;>cases decide (z.Node<y.Node)<;>rfl
theorem yez(v:Voter)(hl:v.Heard.length<1000000)(hm:∀m∈v.Heard,SmallM m):z1y v.Heard ((v.Heard.length:Nat):Int) 0 v.Node v.Seq v.Trust.Threshold v.Trust.Nodes v.Trust.Inner v.Votes v.Accepts v.Confirms v.Heard=some (q3v v.Node none v.Heard):=by cases hh:v.Heard with|nil=>apply qws;rfl|cons y r=>have h1:=y8a v hl hm r 0 y (by simp_all) (by simp_all);rw[hh]at h1 hm;apply qws;rw[q04 (by simp),cT,q0m (y:=y) (by omega) rfl,qdb (hm y (by simp)),bS,q00 (by omega),cF,show addI .i64 0 1=((0+1:Nat):Int)from rfl,h1,q3v];by_cases h1:y.Node=v.Node;all_goals cases msgB y<;>simp[h1,eqB]
theorem qc4(h:SmallV v):z6k v=some (q21 v):=by
 obtain⟨h1,h2,h3,h4,h5,h6⟩:=h;apply yeh;obtain⟨r,g1,g2⟩:=y4j v.Confirms v (by omega) h3 v.Confirms 0 rfl;have g3:z0u v.Confirms v.Node v.Seq v.Trust.Threshold v.Trust.Nodes v.Trust.Inner v.Votes v.Accepts v.Confirms v.Heard=_:=ygh _ _ _ _ _ _ _ _ _ _ _ g1;have g4:z0t v.Confirms v.Node v.Seq v.Trust.Threshold v.Trust.Nodes v.Trust.Inner v.Votes v.Accepts v.Confirms v.Heard=some (!(v.Confirms.all fun x=>decide (x∈v.Accepts)),v.Node,v.Seq,v.Trust.Threshold,v.Trust.Nodes,v.Trust.Inner,v.Votes,v.Accepts,v.Confirms,v.Heard):=by apply yhg;simp_all
 rw[q9a _ h1,qau _ (by omega),qau _ (by omega),qau _ (by omega),g4];simp only[bS,yez v h5 h6,qqc];unfold q21 inR ltB leB;by_cases e1:v.Node<0;·grind
 have e1':0<=v.Node:=by omega
 by_cases e2:10<=v.Node;·grind
 have e2':v.Node<10:=by omega
 by_cases e3:v.Seq<1;·grind
 have e3':1<=v.Seq:=by omega
 by_cases e4:1000000<v.Seq;·grind
 have e4':v.Seq<=1000000:=by omega
 simp only[e1,e1',e2,e2',e3,e3',e4,e4',decide_false,decide_true,cF,tA',Bool.and_true];cases valid v.Trust with|false=>simp|true=>cases hp1:plainC v.Votes with|false=>simp|true=>cases hp2:plainC v.Accepts with|false=>simp|true=>cases plainC v.Confirms with|false=>simp|true=>rw[qpb _ (by omega) (q0w.1 hp1).1,qpb _ (by omega) (q0w.1 hp2).1];grind
theorem y81(v:Voter)(hl:v.Heard.length<1000000)(hm:∀m∈v.Heard,SmallM m):∀(suf:LM)(i:Nat)(z:Message),v.Heard[i]?=some z->v.Heard.drop (i+1)=suf->z2c v.Heard ((v.Heard.length:Nat):Int) ((i+1:Nat):Int) v.Node v.Seq v.Trust.Threshold v.Trust.Nodes v.Trust.Inner v.Votes v.Accepts v.Confirms v.Heard=some (q3v v.Node (some z.Node) suf)|[],i,z,hz,h=>by apply qx3;rw[q0c h];rfl|y::suf,i,z,hz,h=>by have hlt:=q09 h;apply qx3;rw[q05 h,cT,q02 h,qdg (hm y (List.mem_of_mem_drop (i:=i+1) (by simp_all))),bS,q04 (by omega),cT,q46 (by omega) (by omega),q0m (y:=z) (by omega) (by simp_all),q03 (by omega),y81 v hl hm suf (i+1) y (by have:=congrArg (·[0]?) h;grind) (q01 h)];rw[q3v,show leB y.Node z.Node=!decide (z.Node<y.Node)by by_cases h2:z.Node<y.Node<;>simp[leB,h2]<;>omega];simp only[eqB];cases msgB y<;>cases decide (y.Node=v.Node)<;>cases decide (z.Node<y.Node)<;>rfl
theorem yfc(v:Voter)(hl:v.Heard.length<1000000)(hm:∀m∈v.Heard,SmallM m):z2c v.Heard ((v.Heard.length:Nat):Int) 0 v.Node v.Seq v.Trust.Threshold v.Trust.Nodes v.Trust.Inner v.Votes v.Accepts v.Confirms v.Heard=some (q3v v.Node none v.Heard):=by cases hh:v.Heard with|nil=>apply qx3;rfl|cons y r=>have h1:=y81 v hl hm r 0 y (by simp_all) (by simp_all);rw[hh]at h1 hm;apply qx3;rw[q04 (by simp),cT,q0m (y:=y) (by omega) rfl,qdg (hm y (by simp)),bS,q00 (by omega),cF,show addI .i64 0 1=((0+1:Nat):Int)from rfl,h1,q3v];by_cases h1:y.Node=v.Node;all_goals cases msgB y<;>simp[h1,eqB]
theorem ybn(v:Voter)(hl:v.Heard.length<1000000)(hm:∀m∈v.Heard,SmallM m)(ha:v.Accepts.length<1000000)(l:LC)(hll:l.length<1152921504606846976):∀(suf:LC)(i:Nat),l.drop i=suf->z52 l ((l.length:Nat):Int) (i:Int) v.Node v.Seq v.Trust.Threshold v.Trust.Nodes v.Trust.Inner v.Votes v.Accepts v.Confirms v.Heard=some ((suf.all fun x=>decide (x∈v.Accepts))&&q3v v.Node none v.Heard)|[],i,h=>by apply ya1;rw[q0c h,cF,yfc v hl hm];simp|y::suf,i,h=>by have hlt:=q09 h;apply ya1;rw[q05 h,cT,q02 h,qa0 _ (by omega),bS,q03 (by omega),ybn v hl hm ha l hll suf (i+1) (q01 h)];by_cases hy:y∈v.Accepts<;>simp[hy]
theorem qc9(h:SmallV v):z7e v=some (q21 v):=by
 obtain⟨h1,h2,h3,h4,h5,h6⟩:=h;apply ygc;have g1:z52 v.Confirms ((v.Confirms.length:Nat):Int) 0 v.Node v.Seq v.Trust.Threshold v.Trust.Nodes v.Trust.Inner v.Votes v.Accepts v.Confirms v.Heard=_:=ybn v h5 h6 h3 v.Confirms (by omega) v.Confirms 0 rfl;rw[q92 _ h1,qb9 _ (by omega),qb9 _ (by omega),qb9 _ (by omega),qw5 _ (by omega),qw5 _ (by omega),g1];simp only[bS,qqc];unfold q21 inR ltB leB;by_cases e1:v.Node<0
 .have:¬0<=v.Node:=by omega
  simp[e1,this]
 grind
structure Ready(v:Voter):Prop where
 node:inR v.Node=true
 seq:1<=v.Seq/\v.Seq<=1000000
 tr:valid v.Trust=true
 votes:plainC v.Votes=true
 accs:plainC v.Accepts=true
 confs:plainC v.Confirms=true
 cons:consC v.Accepts=true
 sub:∀x∈v.Confirms,x∈v.Accepts
 heard:q3v v.Node none v.Heard=true
theorem q14:q21 v=true↔Ready v/\consC v.Votes=true:=by
 simp only[q21,aT,dT,List.all_eq_true];constructor;·rintro⟨h1,h2,h3,h4,h5,h6,h7,h8,h9,h10,h11⟩;exact⟨⟨h1,⟨h2,h3⟩,h4,h5,h6,h7,h9,h10,h11⟩,h8⟩
 .rintro⟨⟨h1,⟨h2,h3⟩,h4,h5,h6,h7,h9,h10,h11⟩,h8⟩;simp_all
def allM(v:Voter):LM:=v.Heard++[say v]
theorem Ready.msg(h:Ready v):∀m∈v.Heard,msgB m=true/\m.Node≠v.Node:=(q3c.1 h.heard).1
theorem Ready.say{v:Voter}(h:Ready v):msgB (say v)=true:=q3f.2 ⟨h.node,h.seq.1,h.tr,h.votes,h.accs⟩
theorem Ready.all(h:Ready v):∀m∈allM v,msgB m=true:=fun m hm=>by
 rcases List.mem_append.1 hm with hm|hm;·exact(h.msg m hm).1
 .simp at hm;subst hm;exact h.say
theorem Ready.len(h:Ready v):(allM v).length<=11:=by have:=qrf h.heard;simp[allM];omega
theorem Ready.hlen(h:Ready v):v.Heard.length<=10:=qrf h.heard
theorem Ready.alen(h:Ready v):v.Accepts.length<=128:=q4f h.accs
theorem Ready.vlen(h:Ready v):v.Votes.length<=128:=q4f h.votes
theorem Ready.clen(h:Ready v):v.Confirms.length<=128:=q4f h.confs
theorem Ready.small(h:Ready v):SmallV v:=⟨q3j h.tr,by have:=h.vlen;omega,by have:=h.alen;omega,by have:=h.clen;omega,by have:=h.hlen;omega,fun m hm=>q19 (h.msg m hm).1⟩
theorem qjh(v:Voter):z79 v=some (say v):=ygg _ _ (by rw[Trust.etaM];rfl)
theorem y20(v:Voter):z8s v=some (say v):=yew _ _ (by rw[Trust.etaM];rfl)
theorem qbc(m:Message):Message.mk m.Node m.Seq (Trust.mk m.Trust.Threshold m.Trust.Nodes m.Trust.Inner) m.Votes m.Accepts=m:=by simp
theorem q0t(v:Voter):Voter.mk v.Node v.Seq (Trust.mk v.Trust.Threshold v.Trust.Nodes v.Trust.Inner) v.Votes v.Accepts v.Confirms v.Heard=v:=by simp
theorem qp5(hl:v.Heard.length<1000000):z8t v=some (allM v):=by apply yeq;rw[q06 (by simp[q07];omega),y20,bS,qbc,q06 (by simp[q07];omega)];rfl
theorem qlb(l:LM)(hl:l.length<1000000):z14 l=some ((),l):=yh5 _ _ (by rw[q06 (by simp[q07];omega)];rfl)
theorem q48(l:LC)(hl:l.length<1000000):z06 l=some ((),l):=y8z _ _ (by rw[q06 (by simp[q07];omega)];rfl)
def q99(l:LM):LC:=l.flatMap fun m=>m.Votes++m.Accepts
def known(v:Voter):LC:=q0o (q99 (allM v))
theorem qze{m:Message}(h:msgB m=true):∀x∈m.Votes++m.Accepts,vcl x=true:=fun x hx=>by
 obtain⟨_,_,_,h1,h2⟩:=q3f.1 h;rcases List.mem_append.1 hx with hx|hx;·exact(q0w.1 h1).1 x hx
 .exact(q0w.1 h2).1 x hx
theorem qrg(l:LM)(hl:l.length<=11)(hm:∀m∈l,msgB m=true):∀(suf:LM)(i:Nat)(acc:LC),i<=l.length->l.drop i=suf->acc.length<=256*i->(∀x∈acc,vcl x=true)->z5c acc l ((l.length:Nat):Int) (i:Int)=some (q0o (acc++q99 suf))
 |[],i,acc,hi,h,ha,hv=>by apply ya0;rw[q0c h,cF,qnc acc (by omega) hv];simp[q99]|m::suf,i,acc,hi,h,ha,hv=>by
  have hlt:=q09 h;have g:=hm m (List.mem_of_mem_drop (i:=i) (by simp_all));obtain⟨_,_,_,g1,g2⟩:=q3f.1 g;have:=q4f g1;have:=q4f g2;apply ya0;rw[q05 h,cT,q02 h,q06 (by simp[q07];omega),q06 (by simp[q07];omega),q03 (by omega),qrg l hl hm suf (i+1) _ hlt (q01 h) (by grind) (fun x hx=>by
   rw[List.append_assoc]at hx;rcases List.mem_append.1 hx with hx|hx;·simp_all
   .exact qze g x hx)];simp[q99]
theorem y3u(h:Ready v):z8j (allM v)=some (known v):=by apply ye7;have:=qrg (allM v) h.len h.all (allM v) 0 [] (by omega) rfl (by simp) (by simp);exact this
theorem qfh(a b:LC):q0o (q0o a++q0o b)=q0o (a++b):=by refine qgj (q2u _) (q2u _) fun x=>?_;simp only[q27,List.mem_append];simp_all
theorem qrk(v:Voter)(l:LM)(hl:l.length<1000000)(hm:∀m∈l,msgB m=true):∀(suf:LM)(i:Nat)(acc:LC),l.drop i=suf->z69 (q0o acc) l ((l.length:Nat):Int) (i:Int) v.Node v.Seq v.Trust.Threshold v.Trust.Nodes v.Trust.Inner v.Votes v.Accepts v.Confirms v.Heard=some (q0o (acc++q99 suf))|[],i,acc,h=>by apply yai;rw[q0c h,cF];simp[q99]|m::suf,i,acc,h=>by have hlt:=q09 h;have g:=q19 (hm m (List.mem_of_mem_drop (i:=i) (by simp_all)));have h1:=g.votes;have h2:=g.accs;have h3:=q42 acc;have h4:=q42 (m.Votes++m.Accepts);apply yai;rw[q05 h,cT,q02 h,qbh _ _ (by omega) (by omega),bS,qbh _ _ (by omega) (by omega),bS,qfh,q03 (by omega),qrk v l hl hm suf (i+1) _ (q01 h)];simp[q99]
theorem y53(h:Ready v):z99 v=some (known v):=by
 have hlen:=h.len;apply ygu;rw[qp5 (by have:=h.hlen;omega),bS];have hne:allM v≠[]:=by simp[allM]
 obtain⟨m,suf,hms⟩:=List.exists_cons_of_ne_nil hne;have hd:(allM v).drop 0=m::suf:=by rw[List.drop_zero,hms]
 have g:=q19 (h.all m (by rw[hms];simp));have h1:=g.votes;have h2:=g.accs;have h4:=q42 (m.Votes++m.Accepts);apply ygx;have l0:ltB 0 (((allM v).length:Nat):Int)=true:=q05 (i:=0) hd;have n0:∀k:Message->Option (LC),nth (allM v) 0 k=k m:=fun k=>q02 (i:=0) hd k;rw[l0,cT,n0,qbh _ _ (by omega) (by omega),bS,qbh _ _ (by simp) (by omega),bS,show([]:LC)++q0o (m.Votes++m.Accepts)=q0o []++q0o (m.Votes++m.Accepts)from rfl,qfh,show addI .i64 0 1=((1:Nat):Int)from rfl,qrk v (allM v) (by omega) h.all suf 1 _ (by rw[hms];rfl)];rw[known,hms];rfl
def viewV(v:Voter):Config:=viewC v.Node v.Trust v.Heard
def canB(v:Voter)(x:Claim):Bool:=!decide (x∈v.Accepts)&&(decide (∀y∈v.Accepts,¬Contra x y)&&accB (viewV v) v.Node.toNat (votes (allM v) x) (q1p (allM v) x))
def nextV(v:Voter):Option Claim:=(known v).find? (canB v)
theorem Ready.view(h:Ready v):q31 (viewV v):=qvo h.tr fun m hm=>(h.msg m hm).1
theorem Ready.node'(h:Ready v):v.Node.toNat<10/\((v.Node.toNat:Nat):Int)=v.Node:=by have:=q93 h.node;omega
theorem q86{x:Claim}(h:x∈known v):vcl x=true:=(q27.1 h).1
theorem qbx{A:LC}(h:consC A=true)(x:Claim):consC (A++[x])=decide (∀y∈A,¬Contra x y):=by
 rw[Bool.eq_iff_iff,q56,dT];rw[q56]at h;constructor;·simp_all
 .intro g a ha b hb;rcases List.mem_append.1 ha with ha'|ha'<;>rcases List.mem_append.1 hb with hb'|hb';·simp_all
  .simp at hb';subst hb';exact fun hc=>g a ha' hc.symm
  .simp_all
  .simp at ha' hb';subst ha';subst hb';exact fun hc=>hc.2 rfl
theorem qr7{v:Voter}(h:Ready v)(l:LC)(hl:l.length<=128)(hv:∀x∈l,vcl x=true):∀(suf:LC)(i:Nat),l.drop i=suf->z3y (allM v) l ((l.length:Nat):Int) (i:Int) v.Node v.Seq v.Trust.Threshold v.Trust.Nodes v.Trust.Inner v.Votes v.Accepts v.Confirms v.Heard (viewV v).Members 0 0=some (match suf.find? (canB v)with|some x=>(x,true)|none=>(⟨0,0⟩,false))
 |[],i,g=>by apply y9s;rw[q0c g];rfl|y::suf,i,g=>by
  have hlt:=q09 g;have hlen:=h.len;have halen:=h.alen;have hy:=hv y (List.mem_of_mem_drop (i:=i) (by rw[g];simp));have ih:=qr7 h l hl hv suf (i+1) (q01 g);obtain⟨n1,n2⟩:=h.node';have hvc:∀x∈v.Accepts++[y],vcl x=true:=fun x hx=>by
   rcases List.mem_append.1 hx with hx|hx;·exact(q0w.1 h.accs).1 x hx
   .simp at hx;subst hx;exact hy
  have hacc:z5l ⟨(viewV v).Members⟩ v.Node ((votes (allM v) y:Nat):Int) ((q1p (allM v) y:Nat):Int)=some (accB (viewV v) v.Node.toNat (votes (allM v) y) (q1p (allM v) y)):=by have:=y7r h.view (qxy h.all y) (q9d h.all y) n1;rw[n2]at this;exact this
  apply y9s;rw[q05 g,cT,q02 g,qjp _ (by omega),bS,q48 _ (by omega),bS,q06 (by simp[q07];omega),qpb _ (by simp;omega) hvc,bS,qbx h.cons,y22 _ (by omega) h.all,bS,qx0 _ (by omega) h.all,bS,hacc,bS,q03 (by omega),ih,List.find?_cons];simp only[canB];grind
theorem qqj(h:Ready v):z8d v (viewV v)=some (match nextV v with|some x=>(x,true)|none=>(⟨0,0⟩,false)):=by apply yep;have hh:=h.hlen;rw[qlb _ (by omega),bS,qjh,bS,qbc,q06 (by simp[q07];omega)];have:z8j (v.Heard++[say v])=_:=y3u h;rw[this,bS];exact qr7 h (known v) (q42 _) (fun x hx=>q86 hx) (known v) 0 rfl
theorem y1y{v:Voter}(h:Ready v)(x:Claim):∀(suf:LC)(i:Nat),v.Accepts.drop i=suf->z6p v.Accepts ((v.Accepts.length:Nat):Int) (i:Int) v.Node v.Seq v.Trust.Threshold v.Trust.Nodes v.Trust.Inner v.Votes v.Accepts v.Confirms v.Heard x.Topic x.Value=some (decide (∀y∈suf,¬Contra x y)&&accB (viewV v) v.Node.toNat (votes (allM v) x) (q1p (allM v) x))
 |[],i,g=>by
  have hlen:=h.len;have hh:=h.hlen;obtain⟨n1,n2⟩:=h.node';have hacc:z84 (viewV v) v.Node ((votes (allM v) x:Nat):Int) ((q1p (allM v) x:Nat):Int)=some (accB (viewV v) v.Node.toNat (votes (allM v) x) (q1p (allM v) x)):=by have:=y6r h.view (qxy h.all x) (q9d h.all x) n1;simp_all
  have hv:z8a v.Node v.Trust v.Heard=some (viewV v):=qwn h.node h.tr v.Heard (by omega) h.msg;apply y8j;rw[q0c g,cF,q0t,qp5 (by omega),bS,Trust.etaM,hv,bS,show Claim.mk x.Topic x.Value=x from rfl,y54 _ (by omega) h.all,bS,qw4 _ (by omega) h.all,bS,hacc];simp|y::suf,i,g=>by have hlt:=q09 g;have:=h.alen;apply y8j;rw[q05 g,cT,q02 g,show Claim.mk x.Topic x.Value=x from rfl,qbz,bS,q03 (by omega),y1y h x suf (i+1) (q01 g)];by_cases hc:Contra x y<;>simp[hc]
theorem yc2(h:Ready v)(x:Claim):z9v v x=some (canB v x):=by have:=h.alen;apply yfi;rw[qa0 _ (by omega),bS,canB];have h1:z6p v.Accepts ((v.Accepts.length:Nat):Int) 0 v.Node v.Seq v.Trust.Threshold v.Trust.Nodes v.Trust.Inner v.Votes v.Accepts v.Confirms v.Heard x.Topic x.Value=_:=y1y h x v.Accepts 0 rfl;grind
variable {v : Voter} {x : Claim} {A : LC} {m : Message}
def withA(v:Voter)(x:Claim):Voter:={v with Accepts:=q0o (v.Accepts++[x])}
def q2o:Nat->Voter->Voter|0,v=>v|n+1,v=>match nextV v with|none=>v|some x=>q2o n (withA v x)
theorem qe3(h:nextV v=some x):x∈known v/\x∉v.Accepts/\(∀y∈v.Accepts,¬Contra x y)/\accB (viewV v) v.Node.toNat (votes (allM v) x) (q1p (allM v) x)=true:=by have h1:=List.mem_of_find?_eq_some h;have h2:=List.find?_some h;simp only[canB,aT,Bool.not_eq_true',dT,decide_eq_false_iff_not]at h2;simp_all
theorem qg7{y:Claim}(hA:∀z∈A,vcl z=true)(hx:vcl x=true):y∈q0o (A++[x])↔y∈A\/y=x:=by rw[q27,List.mem_append,List.mem_singleton];grind
theorem Ready.avc(h:Ready v):∀z∈v.Accepts,vcl z=true:=(q0w.1 h.accs).1
theorem Ready.withA{v:Voter}(h:Ready v){x:Claim}(hx:vcl x=true)(hc:∀y∈v.Accepts,¬Contra x y):Ready (withA v x):=by
 have hm:=fun y=>qg7 (y:=y) h.avc hx;refine⟨h.node,h.seq,h.tr,h.votes,q2u _,h.confs,?_,fun y hy=>(hm y).2 (.inl (h.sub y hy)),h.heard⟩;have:consC (v.Accepts++[x])=true:=by rw[qbx h.cons,dT];omega
 rw[q56]at this⊢;intro a ha b hb;exact this a (q27.1 ha).2 b (q27.1 hb).2
theorem qt4(hA:plainC A=true)(hx:vcl x=true)(hn:x∉A):(q0o (A++[x])).length=A.length+1:=by
 have hnd:∀{l:LC},l.Pairwise ltc->l.Nodup:=fun h=>List.Pairwise.imp (fun{a b}(hab:ltc a b)=>fun(e:a=b)=>q6e a (by simp_all)) h;have hp:(q0o (A++[x])).Perm (A++[x]):=(List.perm_ext_iff_of_nodup (hnd (qcv _)) (by rw[List.nodup_append];exact⟨hnd (q0w.1 hA).2,by simp,fun a ha b hb=>by grind⟩)).2 fun y=>by rw[qg7 (q0w.1 hA).1 hx];simp
 rw[hp.length_eq];simp
theorem qa7:∀(n:Nat)(v:Voter),Ready v->128-v.Accepts.length<n->Ready (q2o n v)/\nextV (q2o n v)=none|0,v,h,hn=>by omega|n+1,v,h,hn=>by rw[q2o];cases hx:nextV v with|none=>simp_all|some x=>obtain⟨h1,h2,h3,_⟩:=qe3 hx;have hv:=q86 h1;have hr:=h.withA hv h3;have hl:=qt4 h.accs hv h2;have hal:(q0o (v.Accepts++[x])).length<=128:=hr.alen;exact qa7 n (withA v x) hr (by show 128-(q0o (v.Accepts++[x])).length<n;omega)
theorem qbl:∀(n:Nat)(v:Voter),(q2o n v).Node=v.Node/\(q2o n v).Seq=v.Seq/\(q2o n v).Trust=v.Trust/\(q2o n v).Votes=v.Votes/\(q2o n v).Confirms=v.Confirms/\(q2o n v).Heard=v.Heard|0,v=>⟨rfl,rfl,rfl,rfl,rfl,rfl⟩|n+1,v=>by rw[q2o];cases nextV v with|none=>simp|some x=>exact qbl n (withA v x)
def confC(v:Voter)(C:LC)(l:LC):LC:=l.foldl (fun C x=>if confB (viewV v) v.Node.toNat (q1p (allM v) x)then q0o (C++[x])else C) C
def finish(v:Voter):Voter:={v with Confirms:=confC v v.Confirms v.Accepts}
def q0r(v:Voter):Voter:=finish (q2o 200 v)
theorem qkc(v:Voter):∀(l C:LC),plainC C=true->plainC (confC v C l)=true
 |[],C,h=>h|x::l,C,h=>by
  show plainC (confC v (if _ then _ else _) l)=true;refine qkc v l _ ?_;split;·exact q2u _
  omega
theorem qf1(v:Voter){y:Claim}:∀(l C:LC),(∀x∈C,vcl x=true)->(∀x∈l,vcl x=true)->(y∈confC v C l↔y∈C\/y∈l/\confB (viewV v) v.Node.toNat (q1p (allM v) y)=true)
 |[],C,_,_=>by simp[confC]|x::l,C,hC,hl=>by
  show y∈confC v (if _ then _ else _) l↔_;have hx:=hl x (by simp);have hl':∀z∈l,vcl z=true:=fun z hz=>hl z (by grind);by_cases hc:confB (viewV v) v.Node.toNat (q1p (allM v) x)=true;·rw[if_pos hc,qf1 v l _ (fun z hz=>(q27.1 hz).1) hl',qg7 hC hx];grind
  .rw[if_neg hc,qf1 v l C hC hl'];grind
theorem Ready.finish{v:Voter}(h:Ready v):Ready (finish v):=⟨h.node,h.seq,h.tr,h.votes,h.accs,qkc v _ _ h.confs,h.cons,fun x hx=>by
  rcases(qf1 v _ _ (q0w.1 h.confs).1 h.avc).1 hx with hx|hx;·exact h.sub x hx
  .exact hx.1,h.heard⟩
theorem Ready.settle(h:Ready v):Ready (q0r v):=((qa7 200 v h (by omega)).1).finish
theorem qkz:∀t:Trust,Fits t->z6m t=some t:=by
 apply Trust.ind;intro t ih ht;have hsz:size t<1073741824:=ht;rw[q2a]at hsz;have l1:∀(suf:LT)(i:Nat)(acc:LT)(a8:Int)(a10:LI)(a12:LT)(a14:Int)(a16:LI)(a18:LT)(a20:Int)(a22:LI),t.Inner.drop i=suf->acc.length<=i->z5b t.Inner ((t.Inner.length:Nat):Int) (i:Int) a8 a10 a12 a14 a16 a18 a20 a22 acc=some ⟨a20,a22,acc++suf⟩:=by intro suf;induction suf with|nil=>intro i acc a8 a10 a12 a14 a16 a18 a20 a22 h ha;apply y9i;simp only[q0c h,cF,List.append_nil]|cons y suf ihs=>intro i acc a8 a10 a12 a14 a16 a18 a20 a22 h ha;have hlt:=q09 h;have hy:y∈t.Inner:=List.mem_of_mem_drop (by rw[h];exact List.mem_cons_self);apply y9i;simp only[q05 h,cT,q02 h,ih y hy (ht.mem hy),bS,q03 (show i<4611686018427387904 by omega),Trust.etaM];rw[q06 (by simp[q07];omega),ihs (i+1) (acc++[y]) _ _ _ _ _ _ _ _ (q01 h) (by simp;omega)];simp
 apply yhx;have h1:z1j t.Nodes=some ((),t.Nodes):=ybm _ _ (by rw[q06 (by simp[q07];omega)];rfl);rw[h1,bS,show(0:Int)=((0:Nat):Int)from rfl,l1 t.Inner 0 [] _ _ _ _ _ _ _ _ rfl (Nat.le_refl _)];simp
theorem qk0(ht:Fits m.Trust)(h1:m.Votes.length<1000000)(h2:m.Accepts.length<1000000):z3w m=some m:=by apply yiy;rw[qkz _ ht,bS,q48 _ h1,bS,q48 _ h2,bS,Trust.etaM]
theorem qqm(l:LM)(hl:l.length<1000000)(hm:∀m∈l,z3w m=some m)(n s:Int)(t:Int)(ns:LI)(is:LT)(va aa ca:LC)(d1 d2 d3:Int)(d4:LI)(d5:LT)(d6 d7 d8:LC)(d9:LM):∀(suf:LM)(i:Nat)(acc:LM),l.drop i=suf->acc.length<=i->z5a l ((l.length:Nat):Int) (i:Int) n s t ns is va aa ca acc d1 d2 d3 d4 d5 d6 d7 d8 d9=some ⟨n,s,⟨t,ns,is⟩,va,aa,ca,acc++suf⟩|[],i,acc,h,ha=>by apply y8f;rw[q0c h,cF,List.append_nil]|m::suf,i,acc,h,ha=>by have hlt:=q09 h;apply y8f;rw[q05 h,cT,q02 h,hm m (List.mem_of_mem_drop (i:=i) (by simp_all)),bS,qbc,q06 (by simp[q07];omega),q03 (by omega),qqm l hl hm n s t ns is va aa ca d1 d2 d3 d4 d5 d6 d7 d8 d9 suf (i+1) _ (q01 h) (by simp_all)];simp
structure Fresh(v:Voter):Prop where
 tr:Fits v.Trust
 votes:v.Votes.length<1000000
 accs:v.Accepts.length<1000000
 confs:v.Confirms.length<1000000
 heard:v.Heard.length<1000000
 msgs:∀m∈v.Heard,z3w m=some m
theorem qf8(h:Fresh v):z2p v=some v:=by apply yev;rw[qkz _ h.tr,bS,q48 _ h.votes,bS,q48 _ h.accs,bS,q48 _ h.confs,bS];have:=qqm v.Heard h.heard h.msgs v.Node v.Seq v.Trust.Threshold v.Trust.Nodes v.Trust.Inner v.Votes v.Accepts v.Confirms 0 0 0 [] [] [] [] [] [] v.Heard 0 [] rfl (Nat.le_refl _);simp_all
theorem y6u(h:msgB m=true):z3w m=some m:=qk0 (q34 (q3f.1 h).2.2.1).1 (q19 h).votes (q19 h).accs
theorem Ready.fresh(h:Ready v)(s:Int):Fresh {v with Seq:=s}:=⟨(q34 h.tr).1,by have:=h.vlen;grind,by have:=h.alen;grind,by have:=h.clen;grind,by have:=h.hlen;grind,fun m hm=>y6u (h.msg m hm).1⟩
theorem qur{v:Voter}(h:Ready v)(l:LC)(hl:l.length<=128)(hv:∀x∈l,vcl x=true)(d1 d2 d3:Int)(d4:LI)(d5:LT)(d6 d7 d8:LC)(d9:LM)(e1 e2:Int):∀(suf:LC)(i:Nat)(C:LC),l.drop i=suf->plainC C=true->z30 (allM v) l ((l.length:Nat):Int) (i:Int) v.Node v.Seq v.Trust.Threshold v.Trust.Nodes v.Trust.Inner v.Votes v.Accepts C v.Heard d1 d2 d3 d4 d5 d6 d7 d8 d9 (viewV v).Members e1 e2=some {v with Confirms:=confC v C suf}
 |[],i,C,g,hC=>by apply y85;rw[q0c g,cF,Trust.etaM];rfl|y::suf,i,C,g,hC=>by
  have hlt:=q09 g;have hlen:=h.len;have hcl:=q4f hC;have hy:=hv y (List.mem_of_mem_drop (i:=i) (by simp_all));obtain⟨n1,n2⟩:=h.node';have hacc:z4z ⟨(viewV v).Members⟩ v.Node ((q1p (allM v) y:Nat):Int)=some (confB (viewV v) v.Node.toNat (q1p (allM v) y)):=by have:=y7h h.view (q9d h.all y) n1;simp_all
  apply y85;rw[q05 g,cT,q02 g,qx0 _ (by omega) h.all,bS,hacc,bS,quz C y (by omega) (q0w.1 hC).1 hy,bS,q03 (by omega)];show _=some {v with Confirms:=confC v (if confB (viewV v) v.Node.toNat (q1p (allM v) y)then q0o (C++[y])else C) suf};cases hc:confB (viewV v) v.Node.toNat (q1p (allM v) y)with|true=>rw[cT,if_pos rfl];exact qur h l hl hv d1 d2 d3 d4 d5 d6 d7 d8 d9 e1 e2 suf (i+1) _ (q01 g) (q2u _)|false=>rw[cF,if_neg (by simp)];exact qur h l hl hv d1 d2 d3 d4 d5 d6 d7 d8 d9 e1 e2 suf (i+1) _ (q01 g) hC
theorem y3a(d1 d2 d3:Int)(d4:LI)(d5:LT)(d6 d7 d8:LC)(d9:LM):∀(n:Nat)(v:Voter),Ready v->128-v.Accepts.length<n->∀r:Claim×Bool,r=(match nextV v with|some x=>(x,true)|none=>(⟨0,0⟩,false))->z5k r.2 v.Node v.Seq v.Trust.Threshold v.Trust.Nodes v.Trust.Inner v.Votes v.Accepts v.Confirms v.Heard d1 d2 d3 d4 d5 d6 d7 d8 d9 (viewV v).Members r.1.Topic r.1.Value=some (finish (q2o n v))|0,v,h,hn,_,_=>by omega|n+1,v,h,hn,r,hr=>by rw[q2o];apply ydi;cases hx:nextV v with|none=>rw[hx]at hr;subst hr;have hh:=h.hlen;simp only[cF];rw[qlb _ (by omega),bS,q0t,qjh,bS,qbc,q06 (by simp[q07];omega)];have:=qur h v.Accepts h.alen h.avc d1 d2 d3 d4 d5 d6 d7 d8 d9 0 0 v.Accepts 0 v.Confirms rfl h.confs;exact this|some x=>
   rw[hx]at hr;subst hr;obtain⟨h1,h2,h3,_⟩:=qe3 hx;have hv:=q86 h1;have hr:=h.withA hv h3;have hl:=qt4 h.accs hv h2;have hal:=h.alen;have hal':(q0o (v.Accepts++[x])).length<=128:=hr.alen;simp only[cT];rw[show Claim.mk x.Topic x.Value=x from rfl,quz _ _ (by omega) h.avc hv,bS];have hw:Voter.mk v.Node v.Seq (Trust.mk v.Trust.Threshold v.Trust.Nodes v.Trust.Inner) v.Votes (q0o (v.Accepts++[x])) v.Confirms v.Heard=withA v x:=by rw[Trust.etaM];rfl
   rw[hw];have hn':z8d (withA v x) ⟨(viewV v).Members⟩=_:=qqj hr;rw[hn',bS];exact y3a d1 d2 d3 d4 d5 d6 d7 d8 d9 n (withA v x) hr (by grind) _ rfl
theorem qtm(h:Ready v):z8i v=some (q0r v):=by have hh:=h.hlen;apply ygj;have hv:z7i v.Node v.Trust v.Heard=some (viewV v):=y5y h.node h.tr v.Heard (by omega) h.msg;rw[hv,bS,qqj h,bS];exact y3a _ _ _ _ _ _ _ _ _ 200 v h (by omega) _ rfl
noncomputable def turnV(b v:Voter):Voter:=if b.Trust=(q0r v).Trust/\b.Votes=(q0r v).Votes/\b.Accepts=(q0r v).Accepts then q0r v else{q0r v with Seq:=(q0r v).Seq+1}
theorem qg5{b:Voter}(hb:Ready b)(h:Ready v):z3n b v=some (turnV b v):=by
 have hs:=h.settle;have h1:=hb.vlen;have h2:=hb.alen;have hq:=hs.seq;have f0:z2p (q0r v)=some (q0r v):=qf8 (hs.fresh (q0r v).Seq);have f1:z2p {q0r v with Seq:=(q0r v).Seq+1}=some {q0r v with Seq:=(q0r v).Seq+1}:=qf8 (hs.fresh _);have hw:Voter.mk (q0r v).Node (addI .i64 (q0r v).Seq 1) (Trust.mk (q0r v).Trust.Threshold (q0r v).Trust.Nodes (q0r v).Trust.Inner) (q0r v).Votes (q0r v).Accepts (q0r v).Confirms (q0r v).Heard={q0r v with Seq:=(q0r v).Seq+1}:=by rw[Trust.etaM,q22 (by omega) (by omega)]
 apply yde;rw[qtm h,bS,qph _ (q3j hb.tr),bS,qag _ _ (by omega),bS,qag _ _ (by omega),bS,hw,f1,bS,f0,bS,q0t,q0t,turnV];by_cases e1:b.Trust=(q0r v).Trust<;>by_cases e2:b.Votes=(q0r v).Votes<;>by_cases e3:b.Accepts=(q0r v).Accepts<;>simp[e1,e2,e3]
variable {v : Voter} {t : Trust}
noncomputable def turnE(b w:Voter):Voter:=if b.Trust=w.Trust/\b.Votes=w.Votes/\b.Accepts=w.Accepts then w else{w with Seq:=w.Seq+1}
section
variable {b : Voter} (hb : SmallV b) (hbs : 0 <= b.Seq /\ b.Seq < 4611686018427387904) (d1 d2 d3 : Int) (d4 : LI) (d5 : LT) (d6 d7 d8 : LC) (d9 : LM)
include hb hbs
theorem qtf{v:Voter}(h:Ready v)(hs:v.Seq=b.Seq)(l:LC)(hl:l.length<=128)(hv:∀x∈l,vcl x=true):∀(suf:LC)(i:Nat)(C:LC),l.drop i=suf->plainC C=true->z2n (allM v) l ((l.length:Nat):Int) (i:Int) b.Node b.Seq b.Trust.Threshold b.Trust.Nodes b.Trust.Inner b.Votes b.Accepts b.Confirms b.Heard v.Node v.Seq v.Trust.Threshold v.Trust.Nodes v.Trust.Inner v.Votes v.Accepts C v.Heard d1 d2 d3 d4 d5 d6 d7 d8 d9=some (turnE b {v with Confirms:=confC v C suf})
 |[],i,C,g,hC=>by have h1:=hb.votes;have h2:=hb.accs;apply y9l;rw[q0c g,cF,q77 _ _ (by omega),bS,q77 _ _ (by omega),bS,Trust.etaM,Trust.etaM,qfb _ hb.tr,bS,q22 (by omega) (by omega),<-hs,turnE];show _=some (if b.Trust=v.Trust/\b.Votes=v.Votes/\b.Accepts=v.Accepts then _ else _);by_cases e1:b.Trust=v.Trust<;>by_cases e2:b.Votes=v.Votes<;>by_cases e3:b.Accepts=v.Accepts<;>simp[e1,e2,e3,confC]|y::suf,i,C,g,hC=>by
  have hlt:=q09 g;have hlen:=h.len;have hh:=h.hlen;have hcl:=q4f hC;have hy:=hv y (List.mem_of_mem_drop (i:=i) (by simp_all));obtain⟨n1,n2⟩:=h.node';have hacc:z7o (viewV v) v.Node ((q1p (allM v) y:Nat):Int)=some (confB (viewV v) v.Node.toNat (q1p (allM v) y)):=by have:=y67 h.view (q9d h.all y) n1;simp_all
  have hvw:z8a v.Node v.Trust v.Heard=some (viewV v):=qwn h.node h.tr v.Heard (by omega) h.msg;apply y9l;rw[q05 g,cT,q02 g,Trust.etaM,hvw,bS,qw4 _ (by omega) h.all,bS,hacc,bS,qt2 C y (by omega),bS,q03 (by omega)];show _=some (turnE b {v with Confirms:=confC v (if confB (viewV v) v.Node.toNat (q1p (allM v) y)then q0o (C++[y])else C) suf});cases hc:confB (viewV v) v.Node.toNat (q1p (allM v) y)with|true=>rw[cT,if_pos rfl];exact qtf h hs l hl hv suf (i+1) _ (q01 g) (q2u _)|false=>rw[cF,if_neg (by simp)];exact qtf h hs l hl hv suf (i+1) _ (q01 g) hC
theorem y3k{v:Voter}(h:Ready v)(hs:v.Seq=b.Seq)(l:LC)(hl:l.length<=128)(hv:∀x∈l,vcl x=true)(R:Voter):∀(suf:LC)(i:Nat),l.drop i=suf->(∀x,suf.find? (canB v)=some x->z4t true b.Node b.Seq b.Trust.Threshold b.Trust.Nodes b.Trust.Inner b.Votes b.Accepts b.Confirms b.Heard v.Node v.Seq v.Trust.Threshold v.Trust.Nodes v.Trust.Inner v.Votes (q0o (v.Accepts++[x])) v.Confirms v.Heard d1 d2 d3 d4 d5 d6 d7 d8 d9=some R)->(suf.find? (canB v)=none->turnE b (finish v)=R)->z3l false l ((l.length:Nat):Int) (i:Int) b.Node b.Seq b.Trust.Threshold b.Trust.Nodes b.Trust.Inner b.Votes b.Accepts b.Confirms b.Heard v.Node v.Seq v.Trust.Threshold v.Trust.Nodes v.Trust.Inner v.Votes v.Accepts v.Confirms v.Heard d1 d2 d3 d4 d5 d6 d7 d8 d9=some R|[],i,g,_,hnone=>by have hh:=h.hlen;apply y8c;rw[q0c g,cF];apply ye4;rw[cF,q0t,qp5 (by omega),bS,<-hnone rfl];exact qtf hb hbs d1 d2 d3 d4 d5 d6 d7 d8 d9 h hs v.Accepts h.alen h.avc v.Accepts 0 v.Confirms rfl h.confs|y::suf,i,g,hsome,hnone=>by have hlt:=q09 g;have hal:=h.alen;apply y8c;rw[q05 g,cT,q02 g,q0t,yc2 h,bS,qt2 _ _ (by omega),bS,q03 (by omega)];cases hc:canB v y with|true=>simp_all|false=>rw[cF];exact y3k h hs l hl hv R suf (i+1) (q01 g) (fun x hx=>hsome x (by simp_all)) (fun hx=>hnone (by simp_all))
theorem y3b:∀(n:Nat)(v:Voter),Ready v->v.Seq=b.Seq->128-v.Accepts.length<n->z4t true b.Node b.Seq b.Trust.Threshold b.Trust.Nodes b.Trust.Inner b.Votes b.Accepts b.Confirms b.Heard v.Node v.Seq v.Trust.Threshold v.Trust.Nodes v.Trust.Inner v.Votes v.Accepts v.Confirms v.Heard d1 d2 d3 d4 d5 d6 d7 d8 d9=some (turnE b (finish (q2o n v)))
 |0,v,h,hs,hn=>by omega|n+1,v,h,hs,hn=>by
  apply yio;rw[cT,q0t,y53 h,bS];refine y3k hb hbs d1 d2 d3 d4 d5 d6 d7 d8 d9 h hs (known v) (q42 _) (fun x hx=>q86 hx) _ (known v) 0 rfl (fun x hx=>?_) (fun hx=>?_);·have hx':nextV v=some x:=hx;obtain⟨h1,h2,h3,_⟩:=qe3 hx';have hv:=q86 h1;have hr:=h.withA hv h3;have hl:=qt4 h.accs hv h2;have hal':(q0o (v.Accepts++[x])).length<=128:=hr.alen;rw[q2o,hx'];exact y3b n (withA v x) hr hs (by show 128-(q0o (v.Accepts++[x])).length<n;omega)
  .have hx':nextV v=none:=hx;rw[q2o,hx']
theorem q8u(h:Ready v)(hs:v.Seq=b.Seq):z5u b v=some (turnV b v):=by apply yhq;exact y3b hb hbs _ _ _ _ _ _ _ _ _ 200 v h hs (by omega)
end
def q7h:Voter:=⟨0,0,⟨0,[],[]⟩,[],[],[],[]⟩
noncomputable def voteV(v:Voter)(x:Claim):Voter×Int:=if q21 v=false\/vcl x=false then(q7h,1)else if∃y∈v.Votes++v.Accepts,Contra x y then(q7h,14)else if x∈v.Votes then(v,0)else(turnV v {v with Votes:=q0o (v.Votes++[x])},0)
theorem qvq(l:LC)(hl:l.length<1152921504606846976)(x:Claim):∀(suf:LC)(i:Nat),l.drop i=suf->∃r:Int,z0d l ((l.length:Nat):Int) (i:Int) x.Topic x.Value=some (r,x.Topic,x.Value)/\leB 0 r=decide (∃y∈suf,Contra x y)
 |[],i,h=>by refine⟨-1,y4z _ _ _ _ _ _ ?_,by rfl⟩;rw[q0c h];rfl|y::suf,i,h=>by
  have hlt:=q09 h;obtain⟨r,h1,h2⟩:=qvq l hl x suf (i+1) (q01 h);have hf:z92 y x.Topic x.Value=some (decide (Contra x y),x.Topic,x.Value):=yg7 _ _ _ _ (by rw[show Claim.mk x.Topic x.Value=x from rfl,qnn];rfl);by_cases hc:Contra x y;·refine⟨i,y4z _ _ _ _ _ _ ?_,by simp[leB,hc]⟩;rw[q05 h,cT,q02 h,hf];grind
  .refine⟨r,y4z _ _ _ _ _ _ ?_,by rw[h2];simp[hc]⟩;rw[q05 h,cT,q02 h,hf,bS,q03 (by omega)];simp_all
theorem y50(l:LC)(hl:l.length<1152921504606846976)(x:Claim):z0l l x.Topic x.Value=some (decide (∃y∈l,Contra x y),x.Topic,x.Value):=by obtain⟨r,h1,h2⟩:=qvq l hl x l 0 rfl;apply ydm;have h3:z0x l x.Topic x.Value=_:=yi9 _ _ _ _ h1;simp_all
theorem Ready.withV(h:Ready v)(x:Claim):Ready {v with Votes:=q0o (v.Votes++[x])}:=⟨h.node,h.seq,h.tr,q2u _,h.accs,h.confs,h.cons,h.sub,h.heard⟩
theorem y1q(hs:SmallV v)(x:Claim):z9j v x=some (voteV v x):=by apply yf0;rw[qc4 hs,bS,qer,bS,voteV];cases hv:q21 v with|false=>rfl|true=>cases hx:vcl x with|false=>rfl|true=>
   obtain⟨h,hc⟩:=q14.1 hv;have h1:=h.vlen;have h2:=h.alen;have hw:Voter.mk v.Node v.Seq (Trust.mk v.Trust.Threshold v.Trust.Nodes v.Trust.Inner) (q0o (v.Votes++[x])) v.Accepts v.Confirms v.Heard={v with Votes:=q0o (v.Votes++[x])}:=by simp
   simp only[nT,cF,Bool.true_eq_false,or_self,if_false];rw[y50 _ (by omega),bS,y50 _ (by omega),bS];dsimp only;rw[show Claim.mk x.Topic x.Value=x from rfl,qjp _ (by omega),bS,qf8 (h.fresh v.Seq),bS,quz _ _ (by omega) (q0w.1 h.votes).1 hx,bS,hw,qg5 h (h.withV x),bS,q0t,q0t];by_cases e1:∃y∈v.Votes,Contra x y
   .have:∃y∈v.Votes++v.Accepts,Contra x y:=by grind
    rw[if_pos this];simp only[e1,decide_true,cT];rfl
   .by_cases e2:∃y∈v.Accepts,Contra x y
    .have:∃y∈v.Votes++v.Accepts,Contra x y:=by grind
     rw[if_pos this];simp only[e1,e2,decide_true,decide_false,cT,cF];rfl
    .have:¬∃y∈v.Votes++v.Accepts,Contra x y:=by
      rintro⟨y,h,h'⟩;rcases List.mem_append.1 h with h|h;·exact e1 ⟨y,h,h'⟩
      .exact e2 ⟨y,h,h'⟩
     rw[if_neg this];by_cases e3:x∈v.Votes;·simp only[e1,e2,e3,decide_true,decide_false,cT,cF,if_true]
     grind
theorem qvx{v:Voter}(h:Ready v)(x:Claim)(R:Voter×Int)(l:LC)(hl:l.length<1152921504606846976)(d1 d2 d3:Int)(d4:LI)(d5:LT)(d6 d7 d8:LC)(d9:LM)(hR:R=if x∈v.Votes then(v,0)else(turnV v {v with Votes:=q0o (v.Votes++[x])},0)):∀(suf:LC)(i:Nat),l.drop i=suf->z5v l ((l.length:Nat):Int) (i:Int) v.Node v.Seq v.Trust.Threshold v.Trust.Nodes v.Trust.Inner v.Votes v.Accepts v.Confirms v.Heard x.Topic x.Value d1 d2 d3 d4 d5 d6 d7 d8 d9=some (if∃y∈suf,Contra x y then(q7h,14)else R)
 |[],i,g=>by
  have h1:=h.vlen;have hq:=h.seq;have hw:Voter.mk v.Node v.Seq (Trust.mk v.Trust.Threshold v.Trust.Nodes v.Trust.Inner) (q0o (v.Votes++[x])) v.Accepts v.Confirms v.Heard={v with Votes:=q0o (v.Votes++[x])}:=by simp
  apply yao;rw[q0c g,cF,show Claim.mk x.Topic x.Value=x from rfl,qa0 _ (by omega),bS,qt2 _ _ (by omega),bS,q0t,hw,q8u h.small ⟨by omega,by omega⟩ (h.withV x) rfl,bS,q0t,if_neg (by simp),hR];by_cases e3:x∈v.Votes<;>simp[e3]|y::suf,i,g=>by
  have hlt:=q09 g;apply yao;rw[q05 g,cT,q02 g,show Claim.mk x.Topic x.Value=x from rfl,qbz,bS,q03 (by omega),qvx h x R l hl d1 d2 d3 d4 d5 d6 d7 d8 d9 hR suf (i+1) (q01 g)];by_cases hc:Contra x y;·simp[hc];rfl
  simp_all
theorem y24(hs:SmallV v)(x:Claim):z8y v x=some (voteV v x):=by apply yg3;rw[qc9 hs,bS,qg8,bS,voteV];cases hv:q21 v with|false=>rfl|true=>cases hx:vcl x with|false=>rfl|true=>
   obtain⟨h,hc⟩:=q14.1 hv;have h1:=h.vlen;have h2:=h.alen;have h3:=q42 (v.Votes++v.Accepts);simp only[nT,cF,Bool.true_eq_false,or_self,if_false];rw[qbh _ _ (by omega) (by omega),bS];have:=qvx h x _ (q0o (v.Votes++v.Accepts)) (by omega) 0 0 0 [] [] [] [] [] [] rfl (q0o (v.Votes++v.Accepts)) 0 rfl;have h4:∀a b:Int,z5v (q0o (v.Votes++v.Accepts)) (((q0o (v.Votes++v.Accepts)).length:Nat):Int) 0 v.Node v.Seq v.Trust.Threshold v.Trust.Nodes v.Trust.Inner v.Votes v.Accepts v.Confirms v.Heard x.Topic x.Value 0 0 0 [] [] [] [] [] []=_:=fun _ _=>this;rw[h4 0 0];have hiff:(∃y∈q0o (v.Votes++v.Accepts),Contra x y)↔∃y∈v.Votes++v.Accepts,Contra x y:=by
    constructor;·rintro⟨y,g,g'⟩;exact⟨y,(q27.1 g).2,g'⟩
    .rintro⟨y,g,g'⟩;refine⟨y,q27.2 ⟨?_,g⟩,g'⟩;rcases List.mem_append.1 g with g|g;·exact(q0w.1 h.votes).1 y g
     .exact h.avc y g
   by_cases e:∃y∈v.Votes++v.Accepts,Contra x y;·rw[if_pos e,if_pos (hiff.2 e)]
   grind
noncomputable def declV(v:Voter)(t:Trust):Voter×Int:=if q21 v=false then(q7h,1)else if verr t≠0 then(q7h,verr t)else if v.Trust=t then(v,0)else(turnV v {v with Trust:=t},0)
theorem Ready.withT(h:Ready v)(ht:valid t=true):Ready {v with Trust:=t}:=⟨h.node,h.seq,ht,h.votes,h.accs,h.confs,h.cons,h.sub,h.heard⟩
theorem y2q(hs:SmallV v)(ht:Small t):z8h v t=some (declV v t):=by apply ygm;rw[qc4 hs,bS,q9a _ ht,bS,declV];cases hv:q21 v with|false=>rfl|true=>
  obtain⟨h,hc⟩:=q14.1 hv;simp only[nT,cF,Bool.true_eq_false,if_false];by_cases e:verr t=0
  .rw[e,q0g,cF,if_neg (by simp),qph _ hs.tr,bS,qf8 (h.fresh v.Seq),bS];have hw:Voter.mk v.Node v.Seq (Trust.mk t.Threshold t.Nodes t.Inner) v.Votes v.Accepts v.Confirms v.Heard={v with Trust:=t}:=by rw[Trust.etaM]
   rw[hw,qg5 h (h.withT ((q4v t).1 e)),bS,q0t,q0t];by_cases e2:v.Trust=t;·rw[if_pos e2,decide_eq_true e2,cT]
   simp_all
  .rw[q1c e,cT,if_pos e];rfl
theorem y45(hs:SmallV v)(ht:Small t):z83 v t=some (declV v t):=by apply yic;rw[qc9 hs,bS,q92 _ ht,bS,declV];cases hv:q21 v with|false=>rfl|true=>
  obtain⟨h,hc⟩:=q14.1 hv;have hq:=h.seq;simp only[nT,cF,Bool.true_eq_false,if_false];by_cases e:verr t=0
  .rw[e,q0g,cF,if_neg (by simp),qfb _ hs.tr,bS];have hw:Voter.mk v.Node v.Seq (Trust.mk t.Threshold t.Nodes t.Inner) v.Votes v.Accepts v.Confirms v.Heard={v with Trust:=t}:=by rw[Trust.etaM]
   rw[hw,q8u hs ⟨by omega,by omega⟩ (h.withT ((q4v t).1 e)) rfl,bS,q0t,q0t];grind
  .rw[q1c e,cT,if_pos e];rfl
def ql9(n:Int)(t:Trust):Voter×Int:=if inR n=false then(q7h,5)else if verr t≠0 then(q7h,verr t)else(⟨n,1,t,[],[],[],[]⟩,0)
theorem qmm(n:Int)(ht:Small t):z8l n t=some (ql9 n t):=by
 apply yfo;rw[q9a _ ht,bS,ql9,inR,ltB,leB];by_cases e1:n<0
 .have:¬0<=n:=by omega
  simp[e1,this];rfl
 .have e1':0<=n:=by omega
  by_cases e2:10<=n
  .have:¬n<10:=by omega
   simp[e1,e2,this];rfl
  .have e2':n<10:=by omega
   by_cases e:verr t=0;·rw[qkz _ (q34 ((q4v t).1 e)).1];simp[e1,e2,e1',e2',e,neB]
   .simp[e1,e2,e1',e2',e,neB];rfl
theorem qme(n:Int)(ht:Small t):z97 n t=some (ql9 n t):=by
 apply yfb;rw[q92 _ ht,bS,ql9,inR,ltB,leB];by_cases e1:n<0
 .have:¬0<=n:=by omega
  simp[e1,this];rfl
 .have e1':0<=n:=by omega
  by_cases e2:10<=n
  .have:¬n<10:=by omega
   simp[e1,e2,this];rfl
  .have e2':n<10:=by omega
   by_cases e:verr t=0;·simp[e1,e2,e1',e2',e,neB]
   .simp[e1,e2,e1',e2',e,neB];rfl
variable {v : Voter} {a m : Message} {l : LM}
def hearL(m:Message):LM->LM|[]=>[m]|x::r=>if x.Node<m.Node then x::hearL m r else if x.Node=m.Node then m::r else m::x::r
def oldB(l:LM)(m:Message):Bool:=l.any fun x=>decide (x.Node=m.Node)&&decide (m.Seq<=x.Seq)
noncomputable def hearV(v:Voter)(m:Message):Voter×Int:=if q21 v=false\/msgB m=false\/m.Node=v.Node then(q7h,1)else if oldB v.Heard m=true then(q7h,9)else(turnV v {v with Heard:=hearL m v.Heard},0)
theorem qej{m x:Message}:∀{l:LM},x∈hearL m l->x=m\/x∈l
 |[],h=>by simp[hearL]at h;simp_all|y::r,h=>by
  rw[hearL]at h;split at h
  .rcases List.mem_cons.1 h with h|h;·exact .inr (by simp[h])
   .rcases qej h with h|h;·exact .inl h
    .exact .inr (by simp[h])
  grind
theorem ql3{n:Int}{m:Message}(hm:msgB m=true)(hn:m.Node≠n):∀{l:LM}{q:Option Int},q3v n q l=true->(∀k,q=some k->k<m.Node)->q3v n q (hearL m l)=true
 |[],q,_,hq=>by cases q with|none=>simp[hearL,q3v,hm,hn]|some k=>simp[hearL,q3v,hm,hn,hq k rfl]
 |y::r,q,h,hq=>by
  have hi:=q3c.1 h;rw[hearL];split
  .rename_i hlt;have hr:q3v n (some y.Node) r=true:=by rw[List.pairwise_cons]at hi;exact q3c.2 ⟨fun x hx=>hi.1 x (by simp[hx]),fun k hk x hx=>by cases hk;exact hi.2.2.1 x hx,hi.2.2.2⟩
   have ih:=ql3 hm hn hr (fun k hk=>by cases hk;exact hlt);have hj:=q3c.1 ih;refine q3c.2 ⟨fun x hx=>?_,fun k hk x hx=>?_,List.pairwise_cons.2 ⟨fun x hx=>hj.2.1 _ rfl x hx,hj.2.2⟩⟩
   .rcases List.mem_cons.1 hx with e|hx;·subst e;exact hi.1 x (by simp)
    .exact hj.1 x hx
   grind
  .rename_i hge;rw[List.pairwise_cons]at hi;split
   .rename_i heq;refine q3c.2 ⟨fun x hx=>?_,fun k hk x hx=>?_,List.pairwise_cons.2 ⟨fun x hx=>by rw[<-heq];exact hi.2.2.1 x hx,hi.2.2.2⟩⟩
    .rcases List.mem_cons.1 hx with e|hx;·subst e;exact⟨hm,hn⟩
     .exact hi.1 x (by simp[hx])
    grind
   .rename_i hne;have hlt:m.Node<y.Node:=by omega
    refine q3c.2 ⟨fun x hx=>?_,fun k hk x hx=>?_,List.pairwise_cons.2 ⟨fun x hx=>?_,List.pairwise_cons.2 hi.2.2⟩⟩
    .rcases List.mem_cons.1 hx with e|hx;·subst e;exact⟨hm,hn⟩
     .exact hi.1 x hx
    .rcases List.mem_cons.1 hx with e|hx;·subst e;exact hq k hk
     .exact hi.2.1 k hk x hx
    grind
theorem Ready.withH(h:Ready v)(hm:msgB m=true)(hn:m.Node≠v.Node):Ready {v with Heard:=hearL m v.Heard}:=⟨h.node,h.seq,h.tr,h.votes,h.accs,h.confs,h.cons,h.sub,ql3 hm hn h.heard (fun k hk=>by grind)⟩
def pos(k:Int):LM->Nat|[]=>0|x::r=>if x.Node<k then pos k r+1 else 0
theorem y27(k:Int):∀l:LM,pos k l<=l.length
 |[]=>Nat.le_refl _|x::r=>by
  rw[pos];split;·simp;exact y27 k r
  simp
theorem qmj{k:Int}:∀{l:LM},l.Pairwise (fun a b=>a.Node<b.Node)->∀(i:Nat)(x:Message),l[i]?=some x->(x.Node<k↔i<pos k l)|[],_,i,x,h=>by grind|y::r,hp,i,x,h=>by rw[List.pairwise_cons]at hp;rw[pos];cases i with|zero=>grind|succ i=>
   have h':r[i]?=some x:=by simpa using h
   have hyx:=hp.1 x (List.mem_of_getElem? h');split;·rw[qmj hp.2 i x h'];omega
   omega
def q9x(k:Int)(l:LM):Bool:=match l[pos k l]? with|some x=>decide (x.Node=k)|none=>false
theorem qsc{m:Message}:∀{l:LM},hearL m l=if q9x m.Node l=true then l.set (pos m.Node l) m else l.take (pos m.Node l)++m::l.drop (pos m.Node l)
 |[]=>by rfl|x::r=>by
  rw[hearL];by_cases h1:x.Node<m.Node
  .have hp:pos m.Node (x::r)=pos m.Node r+1:=by rw[pos,if_pos h1]
   have hf:q9x m.Node (x::r)=q9x m.Node r:=by simp[q9x,hp]
   rw[if_pos h1,qsc (l:=r),hp,hf];split<;>simp
  .have hp:pos m.Node (x::r)=0:=by rw[pos,if_neg h1]
   have hf:q9x m.Node (x::r)=decide (x.Node=m.Node):=by simp[q9x,hp]
   grind
theorem y62(hp:l.Pairwise (fun a b=>a.Node<b.Node)):oldB l m=match l[pos m.Node l]? with|some x=>decide (x.Node=m.Node)&&decide (m.Seq<=x.Seq)|none=>false:=by cases hx:l[pos m.Node l]? with|none=>rw[oldB,List.any_eq_false];intro x hx';obtain⟨i,hi,rfl⟩:=List.mem_iff_getElem.1 hx';have h1:=(qmj (k:=m.Node) hp i l[i] (by simp[hi]));grind|some y=>
  show oldB l m=(decide (y.Node=m.Node)&&decide (m.Seq<=y.Seq));rw[oldB,Bool.eq_iff_iff,List.any_eq_true];constructor
  .rintro⟨x,hx',h⟩;simp only[aT,dT]at h;obtain⟨i,hi,rfl⟩:=List.mem_iff_getElem.1 hx';have h1:=(qmj (k:=m.Node) hp i l[i] (by simp[hi]));have h3:=(qmj (k:=m.Node) hp _ y hx);have hge:pos m.Node l<=i:=by
    have:¬l[i].Node<m.Node:=by omega
    rw[h1]at this;omega
   have hpl:=(List.getElem?_eq_some_iff.1 hx).1;have:i=pos m.Node l:=by
    by_cases e:i=pos m.Node l;·exact e
    .have hlt:pos m.Node l<i:=by omega
     have:=List.pairwise_iff_getElem.1 hp _ _ hpl hi hlt;have h4:l[pos m.Node l]=y:=(List.getElem?_eq_some_iff.1 hx).2;rw[h4]at this;have:¬y.Node<m.Node:=by rw[h3];omega
     omega
   subst this;have h4:l[pos m.Node l]=y:=(List.getElem?_eq_some_iff.1 hx).2;rw[h4]at h;simp[h]
  grind
theorem yd6:∀i:Fin 12,∀j:Fin 12,IntKind.wrap .i64 (shrI .u64 (IntKind.wrap .u64 (addI .i64 ((i.val:Nat):Int) ((j.val:Nat):Int))) 1)=(((i.val+j.val)/2:Nat):Int):=by decide+kernel
theorem qw0(x:Message)(k:Int):z7x x k=some (if x.Node<k then-1 else if k<x.Node then 1 else 0):=yds _ _ _ (by rw[ql4];rfl)
theorem y0t{l:LM}(hl:l.length<=10)(hp:l.Pairwise (fun a b=>a.Node<b.Node))(k:Int):∀(n i j:Nat),j-i<=n->i<=pos k l->pos k l<=j->j<=l.length->z02 l k ((l.length:Nat):Int) (i:Int) (j:Int)=some (((pos k l:Nat):Int),q9x k l)
 |n,i,j,hn,hi,hj,hjl=>by
  apply yhe;by_cases hij:i<j
  .obtain⟨n,rfl⟩:∃m,n=m+1:=⟨n-1,by omega⟩;have hmid:=yd6 ⟨i,by omega⟩ ⟨j,by omega⟩;dsimp only at hmid;have hml:(i+j)/2<l.length:=by omega
   have hg:l[(i+j)/2]?=some l[(i+j)/2]:=by simp
   have hpl:=qmj (k:=k) hp _ _ hg;rw[q04 (by omega),cT,hmid,q0m (by omega) (by rw[tN];omega),qw0,bS];by_cases h1:l[(i+j)/2].Node<k;·rw[if_pos h1,q04 (by decide),cT,q03 (by omega)];exact y0t hl hp k n ((i+j)/2+1) j (by omega) (by omega) hj hjl
   .rw[if_neg h1,q00 (by split<;>decide),cF];exact y0t hl hp k n i ((i+j)/2) (by omega) hi (by omega) (by omega)
  .have hij':i=pos k l:=by omega
   subst hij';rw[q00 (by omega),cF];unfold q9x;by_cases he:pos k l<l.length
   .have hg:l[pos k l]?=some l[pos k l]:=by simp
    have hpl:=qmj (k:=k) hp _ _ hg;have h1:¬l[pos k l].Node<k:=by omega
    rw[q04 (by omega),cT,q0m (by omega) (by rw[tN];omega),qw0,bS,hg,if_neg h1];by_cases h2:k<l[pos k l].Node
    .have:¬l[pos k l].Node=k:=by omega
     simp[h2,this,eqB]
    .have:l[pos k l].Node=k:=by omega
     simp[this,eqB]
   .rw[q00 (by omega),cF,List.getElem?_eq_none (by omega)]
theorem yex(hl:l.length<=10)(hp:l.Pairwise (fun a b=>a.Node<b.Node))(k:Int):z0i l k=some (((pos k l:Nat):Int),q9x k l):=by apply yhs;exact y0t hl hp k l.length 0 l.length (by omega) (by omega) (y27 k l) (Nat.le_refl _)
theorem y3w(l:LM):(l.map q1d).all (q5q 7)=true:=by rw[List.all_eq_true];intro x hx;obtain⟨y,_,rfl⟩:=List.mem_map.1 hx;rfl
theorem y03(l:LM)(hl:l.length<1000000)(m:Message)(i:Nat)(hi:i<=l.length):z6l (i:Int) [m] l=some (l.take i++m::l.drop i,()):=by
 refine qaq (T:=tn) (m:=q7y 7) sigOk (by rfl) rfl ?_;show libA (q7y 7) [.ref 0,.d (.v (.int .i64 i)),.d (.list [q1d m])] [[.own (l.map q1d) false]]=some (.d (.list ((l.take i++m::l.drop i).map q1d)),[[.undef]]);unfold libA q7y;have h1:(i:Int)<=((l.map q1d).length:Int):=by simp_all
 have h2:(l.map q1d).length<q07:=by simp[q07];omega
 have h3:q5q 7 (q1d m)=true:=rfl;simp only[Int.natCast_nonneg,h1,h2,h3,y3w,and_self,if_true,tN];simp only[List.map_append,List.map_cons,List.map_take,List.map_drop];rfl
theorem qq2(hs:SmallV v)(hm:SmallM m):z95 v m=some (hearV v m):=by apply yj1;rw[qc4 hs,bS,qdb hm,bS,hearV];cases hv:q21 v with|false=>rfl|true=>cases hx:msgB m with|false=>rfl|true=>
   obtain⟨h,hc⟩:=q14.1 hv;simp only[nT,cF,Bool.true_eq_false,false_or];by_cases hn:m.Node=v.Node;·rw[if_pos hn,hn,q0e];rfl
   .rw[if_neg hn,q0d hn,cF];have hp:=(q3c.1 h.heard).2.2;have hh:=h.hlen;rw[yex hh hp,bS,y62 hp,qlb _ (by omega)];have hpl:=y27 m.Node v.Heard;have hw:∀H,Voter.mk v.Node v.Seq (Trust.mk v.Trust.Threshold v.Trust.Nodes v.Trust.Inner) v.Votes v.Accepts v.Confirms H={v with Heard:=H}:=fun H=>by simp
    have ht:=qg5 h (h.withH hx hn);rw[qsc]at ht⊢;simp only[bS,qbc];cases hf:q9x m.Node v.Heard with
    |true=>rw[hf,if_pos rfl]at ht;unfold q9x at hf;cases hg:v.Heard[pos m.Node v.Heard]? with|none=>simp_all|some y=>
      rw[hg]at hf;have hy:y.Node=m.Node:=by simp_all
      simp only[cT,if_true];rw[q0m (by omega) (by rw[tN];omega),q0m (by omega) (by rw[tN];omega),q2p (by rw[tN];omega),tN,hw,ht,bS,q0t];by_cases hq:m.Seq<=y.Seq<;>simp[leB,hy,hq]<;>rfl
    |false=>
     rw[hf,if_neg (by simp)]at ht;unfold q9x at hf;have hold:(match v.Heard[pos m.Node v.Heard]? with|some x=>decide (x.Node=m.Node)&&decide (m.Seq<=x.Seq)|none=>false)=false:=by grind
     simp only[cF,hold,fT,if_false];rw[y03 _ (by omega) m _ hpl,bS,hw,ht,bS,q0t]
theorem qyd:∀{l:LM},(∀x∈l,m.Node<x.Node)->hearL m l=m::l|[],_=>rfl|y::r,h=>by have:=h y (by simp);rw[hearL,if_neg (by omega),if_neg (by omega)]
theorem qum(h:∀x∈l,m.Node<x.Node):oldB l m=false:=by rw[oldB,List.any_eq_false];grind
theorem qe7(y:Message)(l:LM)(m:Message):oldB (y::l) m=(decide (y.Node=m.Node)&&decide (m.Seq<=y.Seq)||oldB l m):=rfl
theorem qy6{v:Voter}(h:Ready v){m:Message}(d1 d2 d3:Int)(d4:LI)(d5:LT)(d6 d7 d8:LC)(d9:LM):∀(suf:LM)(i:Nat)(acc:LM)(done:Bool),i<=v.Heard.length->v.Heard.drop i=suf->acc.length<=2*i->(done=true->∀x∈suf,m.Node<x.Node)->suf.Pairwise (fun a b=>a.Node<b.Node)->(oldB suf m=false->Ready {v with Heard:=acc++(if done=true then suf else hearL m suf)})->z3t done v.Heard ((v.Heard.length:Nat):Int) (i:Int) v.Node v.Seq v.Trust.Threshold v.Trust.Nodes v.Trust.Inner v.Votes v.Accepts v.Confirms v.Heard m.Node m.Seq m.Trust.Threshold m.Trust.Nodes m.Trust.Inner m.Votes m.Accepts d1 d2 d3 d4 d5 d6 d7 d8 d9 v.Node v.Seq v.Trust.Threshold v.Trust.Nodes v.Trust.Inner v.Votes v.Accepts v.Confirms acc=some (if oldB suf m=true then(q7h,9)else(turnV v {v with Heard:=acc++(if done=true then suf else hearL m suf)},0))
 |[],i,acc,done,hil,g,ha,hd,hp,hR=>by
  have hq:=h.seq;have hh:=h.hlen;have hw:∀H,Voter.mk v.Node v.Seq (Trust.mk v.Trust.Threshold v.Trust.Nodes v.Trust.Inner) v.Votes v.Accepts v.Confirms H={v with Heard:=H}:=fun H=>by simp
  have hr:=hR rfl;apply y90;rw[q0c g,cF,q0t,qbc,hw,hw,q06 (by simp[q07];omega)];cases done with|true=>simp only[if_true,List.append_nil]at hr⊢;rw[nT,cF,q8u h.small ⟨by omega,by omega⟩ hr rfl,bS,q0t];rfl|false=>simp only[fT,if_false,hearL]at hr⊢;rw[Bool.not_false,cT,q8u h.small ⟨by omega,by omega⟩ hr rfl,bS,q0t];rfl
 |y::suf,i,acc,done,hil,g,ha,hd,hp,hR=>by
  have hlt:=q09 g;have hh:=h.hlen;rw[List.pairwise_cons]at hp;have ih:=fun acc' done' a b c=>qy6 h (m:=m) d1 d2 d3 d4 d5 d6 d7 d8 d9 suf (i+1) acc' done' hlt (q01 g) a b hp.2 c;apply y90;rw[q05 g,cT,q02 g,q03 (by omega),qbc,qbc,q06 (by simp[q07];omega),q06 (by simp[q07];omega),q06 (by simp[q07];omega),qe7];by_cases h1:y.Node=m.Node
  .have hgt:∀x∈suf,m.Node<x.Node:=fun x hx=>by simp_all
   have hdf:done=false:=by simp_all
   subst hdf;rw[h1,q0e,cT,qum hgt];have e1:hearL m (y::suf)=m::suf:=by rw[hearL,if_neg (by omega),if_pos h1]
   by_cases h2:m.Seq<=y.Seq;·simp[leB,h2];rfl
   .have hr:Ready {v with Heard:=acc++(if false=true then suf else hearL m suf)}:=by have:=hR (by rw[qe7,qum hgt];simp[h2]);rw[e1]at this;rw[qyd hgt];exact this
    rw[show leB m.Seq y.Seq=false by simp[leB,h2],cF,ih acc false (by omega) (fun e=>by cases e) (fun _=>hr),qum hgt,e1,qyd hgt];grind
  .rw[q0d h1,cF];have e0:(decide (y.Node=m.Node)&&decide (m.Seq<=y.Seq)||oldB suf m)=oldB suf m:=by grind
   rw[e0];have hR':oldB suf m=false->Ready {v with Heard:=acc++(if done=true then y::suf else hearL m (y::suf))}:=fun ho=>hR (by rw[qe7,e0];omega);by_cases h2:m.Node<y.Node;·have hgt:∀x∈suf,m.Node<x.Node:=fun x hx=>Int.lt_trans h2 (hp.1 x hx);rw[q04 h2,cT];cases done with
    |false=>
     have e1:hearL m (y::suf)=m::y::suf:=by rw[hearL,if_neg (by omega),if_neg h1]
     grind|true=>grind
   .have h3:y.Node<m.Node:=by omega
    have hdf:done=false:=by cases done with|false=>rfl|true=>have:=hd rfl y (by simp);omega
    subst hdf;have e1:hearL m (y::suf)=y::hearL m suf:=by rw[hearL,if_pos h3]
    rw[q00 (by omega),cF];grind
theorem qrc(hs:SmallV v)(hm:SmallM m):z6g v m=some (hearV v m):=by apply ygw;rw[qc9 hs,bS,qdg hm,bS,hearV];cases hv:q21 v with|false=>rfl|true=>cases hx:msgB m with|false=>rfl|true=>
   obtain⟨h,hc⟩:=q14.1 hv;simp only[nT,cF,Bool.true_eq_false,false_or];by_cases hn:m.Node=v.Node;·rw[if_pos hn,hn,q0e];rfl
   .rw[if_neg hn,q0d hn,cF];exact qy6 h (m:=m) 0 0 0 [] [] [] [] [] [] v.Heard 0 [] false (Nat.zero_le _) rfl (Nat.le_refl _) (fun e=>by cases e) (q3c.1 h.heard).2.2 (fun _=>h.withH hx hn)
theorem y66(ht:Fits v.Trust)(h1:v.Votes.length<1000000)(h2:v.Accepts.length<1000000):z9p v=some (say v):=by apply yfy;rw[qjh,bS,qk0 ht h1 h2,bS,qbc]
noncomputable def msgEq(a b:Message):Bool:=decide (a.Node=b.Node)&&(decide (a.Seq=b.Seq)&&(decide (a.Trust=b.Trust)&&(decide (a.Votes=b.Votes)&&decide (a.Accepts=b.Accepts))))
theorem qpn{b:Message}:msgEq a b=true↔a=b:=by cases a;cases b;simp[msgEq]
theorem qqv(h:SmallM a)(b:Message):z8o a b=some (msgEq a b):=by apply yhj;rw[qph _ h.tr,qag _ _ (by have:=h.votes;omega),qag _ _ (by have:=h.accs;omega)];simp only[bS,eqB,msgEq];cases decide (a.Node=b.Node)<;>cases decide (a.Seq=b.Seq)<;>cases decide (a.Trust=b.Trust)<;>cases decide (a.Votes=b.Votes)<;>rfl
theorem y3f(h:SmallM a)(b:Message):z9s a b=some (msgEq a b):=by apply yix;rw[qfb _ h.tr,q77 _ _ (by have:=h.votes;omega),q77 _ _ (by have:=h.accs;omega)];simp only[bS,eqB,msgEq];cases decide (a.Node=b.Node)<;>cases decide (a.Seq=b.Seq)<;>cases decide (a.Trust=b.Trust)<;>cases decide (a.Votes=b.Votes)<;>rfl
noncomputable def q63:LM->LM->Bool|[],[]=>true|a::l,b::k=>msgEq a b&&q63 l k|_,_=>false
theorem qgo:∀{l k:LM},q63 l k=true↔l=k|[],[]=>by simp[q63]|[],b::k=>by simp[q63]|a::l,[]=>by simp[q63]|a::l,b::k=>by rw[q63,aT,qpn,qgo];simp
theorem y43(l k:LM)(hl:l.length<1000000)(hk:l.length=k.length)(hm:∀m∈l,SmallM m):∀(suf suk:LM)(i:Nat),l.drop i=suf->k.drop i=suk->z01 k l ((l.length:Nat):Int) (i:Int)=some (q63 suf suk)
 |[],suk,i,h,h'=>by
  have:suk=[]:=by rw[<-h',List.drop_eq_nil_iff,<-hk];exact List.drop_eq_nil_iff.1 h
  subst this;apply y9c;rw[q0c h];rfl|y::suf,[],i,h,h'=>by have:=q09 h;have:=List.drop_eq_nil_iff.1 h';omega|y::suf,z::suk,i,h,h'=>by have hlt:=q09 h;apply y9c;rw[q05 h,cT,q02 h,q02 h',qqv (hm y (List.mem_of_mem_drop (i:=i) (by rw[h];simp))),bS,q03 (by omega),y43 l k hl hk hm suf suk (i+1) (q01 h) (q01 h'),q63];cases msgEq y z<;>rfl
theorem qn3{k:LM}(h:l.length≠k.length):q63 l k=false:=by cases e:q63 l k with|false=>rfl|true=>exact absurd (by rw[qgo.1 e]) h
noncomputable def sameV(a b:Voter):Bool:=msgEq (say a) (say b)&&(decide (a.Confirms=b.Confirms)&&q63 a.Heard b.Heard)
theorem qsx{a b:Voter}:sameV a b=true↔a=b:=by rw[sameV,aT,aT,qpn,dT,qgo];cases a;cases b;simp[say];grind
theorem qpy{a:Voter}(h:SmallV a)(b:Voter):z9l a b=some (sameV a b):=by
 have hl:=h.heard;apply ygd;have h1:z0h a.Heard b.Heard=some (q63 a.Heard b.Heard):=by
  apply ydj;by_cases hk:a.Heard.length=b.Heard.length;·rw[hk,q0g,cF,<-hk];exact y43 _ _ hl hk h.msgs _ _ 0 rfl rfl
  .rw[q1c (by omega),cT,qn3 hk]
 rw[qjh,qjh,bS,bS,qqv (a:=say a) ⟨h.tr,h.votes,h.accs⟩,qag _ _ (by have:=h.confs;omega),h1];simp only[bS,sameV];cases msgEq (say a) (say b)<;>cases decide (a.Confirms=b.Confirms)<;>rfl
theorem qrd(a b:Voter)(hl:a.Heard.length<1000000)(hk:a.Heard.length=b.Heard.length)(hm:∀m∈a.Heard,SmallM m):∀(suf suk:LM)(i:Nat),a.Heard.drop i=suf->b.Heard.drop i=suk->z5r ((a.Heard.length:Nat):Int) (i:Int) a.Node a.Seq a.Trust.Threshold a.Trust.Nodes a.Trust.Inner a.Votes a.Accepts a.Confirms a.Heard b.Node b.Seq b.Trust.Threshold b.Trust.Nodes b.Trust.Inner b.Votes b.Accepts b.Confirms b.Heard=some (q63 suf suk)
 |[],suk,i,h,h'=>by
  have:suk=[]:=by rw[<-h',List.drop_eq_nil_iff,<-hk];exact List.drop_eq_nil_iff.1 h
  subst this;apply ybh;rw[q0c h];rfl|y::suf,[],i,h,h'=>by have:=q09 h;have:=List.drop_eq_nil_iff.1 h';omega|y::suf,z::suk,i,h,h'=>by have hlt:=q09 h;apply ybh;rw[q05 h,cT,q02 h,q02 h',y3f (hm y (List.mem_of_mem_drop (i:=i) (by rw[h];simp))),bS,q03 (by omega),qrd a b hl hk hm suf suk (i+1) (q01 h) (q01 h'),q63];cases msgEq y z<;>rfl
theorem qps{a:Voter}(h:SmallV a)(b:Voter):z9r a b=some (sameV a b):=by
 have hl:=h.heard;apply ydq;have h1:(bif neB ((a.Heard.length:Nat):Int) ((b.Heard.length:Nat):Int)then some false else z5r ((a.Heard.length:Nat):Int) 0 a.Node a.Seq a.Trust.Threshold a.Trust.Nodes a.Trust.Inner a.Votes a.Accepts a.Confirms a.Heard b.Node b.Seq b.Trust.Threshold b.Trust.Nodes b.Trust.Inner b.Votes b.Accepts b.Confirms b.Heard)=some (q63 a.Heard b.Heard):=by
  by_cases hk:a.Heard.length=b.Heard.length;·rw[<-hk,q0g,cF];exact qrd a b hl hk h.msgs _ _ 0 rfl rfl
  .rw[q1c (by omega),cT,qn3 hk]
 rw[qfb _ h.tr,q77 _ _ (by have:=h.votes;omega),q77 _ _ (by have:=h.accs;omega),q77 _ _ (by have:=h.confs;omega),h1];have n1:∀x y:Int,neB x y=!decide (x=y):=fun x y=>by by_cases h:x=y<;>simp[neB,h]
 simp only[bS,n1];show _=some ((decide (a.Node=b.Node)&&(decide (a.Seq=b.Seq)&&(decide (a.Trust=b.Trust)&&(decide (a.Votes=b.Votes)&&decide (a.Accepts=b.Accepts)))))&&(decide (a.Confirms=b.Confirms)&&q63 a.Heard b.Heard));cases decide (a.Node=b.Node)<;>cases decide (a.Seq=b.Seq)<;>cases decide (a.Trust=b.Trust)<;>cases decide (a.Votes=b.Votes)<;>cases decide (a.Accepts=b.Accepts)<;>cases decide (a.Confirms=b.Confirms)<;>rfl
variable {b u v : Voter} {t : Trust} {m : Message}
theorem q2s(v:Voter):(q0r v).Node=v.Node/\(q0r v).Seq=v.Seq/\(q0r v).Trust=v.Trust/\(q0r v).Votes=v.Votes/\(q0r v).Heard=v.Heard:=by obtain⟨h1,h2,h3,h4,_,h6⟩:=qbl 200 v;exact⟨h1,h2,h3,h4,h6⟩
theorem qde:∀(n:Nat)(v:Voter),Ready v->∀x∈v.Accepts,x∈(q2o n v).Accepts|0,v,h,x,hx=>hx|n+1,v,h,x,hx=>by rw[q2o];cases hy:nextV v with|none=>omega|some y=>obtain⟨h1,h2,h3,_⟩:=qe3 hy;have hv:=q86 h1;exact qde n (withA v y) (h.withA hv h3) x ((qg7 h.avc hv).2 (.inl hx))
theorem qq4(h:Ready v){y:Claim}:y∈(q0r v).Confirms↔y∈v.Confirms\/y∈(q0r v).Accepts/\confB (viewV (q0r v)) (q0r v).Node.toNat (q1p (allM (q0r v)) y)=true:=by have hs:=(qa7 200 v h (by omega)).1;obtain⟨_,_,_,_,h5,_⟩:=qbl 200 v;show y∈confC (q2o 200 v) (q2o 200 v).Confirms (q2o 200 v).Accepts↔_;rw[qf1 _ _ _ (q0w.1 hs.confs).1 hs.avc,h5];rfl
theorem Ready.withS(h:Ready v){s:Int}(h1:1<=s)(h2:s<=1000000):Ready {v with Seq:=s}:=⟨h.node,⟨h1,h2⟩,h.tr,h.votes,h.accs,h.confs,h.cons,h.sub,h.heard⟩
theorem q4d(b v:Voter):∃s:Int,(s=v.Seq\/s=v.Seq+1)/\turnV b v={q0r v with Seq:=s}/\(s=v.Seq↔b.Trust=v.Trust/\b.Votes=v.Votes/\b.Accepts=(q0r v).Accepts):=by
 obtain⟨h1,h2,h3,h4,h5⟩:=q2s v;rw[turnV,h3,h4,h2];split;·rename_i h;exact⟨v.Seq,.inl rfl,by rw[<-h2],fun _=>h,fun _=>rfl⟩
 .rename_i h;exact⟨v.Seq+1,.inr rfl,rfl,fun e=>by omega,fun e=>absurd e h⟩
structure Step(v w:Voter):Prop where
 node:w.Node=v.Node
 seq:w.Seq=v.Seq\/w.Seq=v.Seq+1
 votes:∀x∈v.Votes,x∈w.Votes
 accs:∀x∈v.Accepts,x∈w.Accepts
 confs:∀x∈v.Confirms,x∈w.Confirms
 ready:w.Seq<=1000000->q21 w=true
 small:SmallV w
theorem Ready.smallS(h:Ready v)(s:Int):SmallV {v with Seq:=s}:=⟨h.small.tr,h.small.votes,h.small.accs,h.small.confs,h.small.heard,h.small.msgs⟩
theorem qfi(hu:Ready u)(hc:consC u.Votes=true)(hn:u.Node=v.Node)(hs:u.Seq=v.Seq)(hv:∀x∈v.Votes,x∈u.Votes)(ha:u.Accepts=v.Accepts)(hcf:u.Confirms=v.Confirms):Step v (turnV b u):=by obtain⟨s,h1,h2,_⟩:=q4d b u;obtain⟨g1,g2,g3,g4,g5⟩:=q2s u;have hr:=hu.settle;rw[h2];refine⟨g1.trans hn,by simp_all,fun x hx=>by simp_all,fun x hx=>qde 200 u hu x (by simp_all),fun x hx=>(qq4 hu).2 (.inl (by simp_all)),fun hle=>?_,hr.smallS s⟩;have h3:=hu.seq;exact q14.2 ⟨hr.withS (by omega) hle,by simp_all⟩
theorem qqz(hv:q21 v=true):Step v v:=⟨rfl,.inl rfl,fun _ h=>h,fun _ h=>h,fun _ h=>h,fun _=>hv,(q14.1 hv).1.small⟩
theorem y2c(hv:q21 v=true){x:Claim}(h:(voteV v x).2=0):Step v (voteV v x).1/\(voteV v x).1.Heard=v.Heard/\(voteV v x).1.Trust=v.Trust:=by
 obtain⟨hr,hc⟩:=q14.1 hv;unfold voteV at h⊢;split at h;·omega
 .rename_i h1;rw[if_neg h1];split at h;·omega
  .rename_i h2;rw[if_neg h2];split;·exact⟨qqz hv,rfl,rfl⟩
   .have hx:vcl x=true:=by simp_all
    have hm:=fun y=>qg7 (y:=y) (q0w.1 hr.votes).1 hx;refine⟨qfi (hr.withV x) ?_ rfl rfl (fun y hy=>(hm y).2 (.inl hy)) rfl rfl,?_,?_⟩
    .have:consC (v.Votes++[x])=true:=by rw[qbx hc,dT];exact fun y hy hcc=>h2 ⟨y,by simp[hy],hcc⟩
     rw[q56]at this⊢;simp_all
    .obtain⟨s,_,h4,_⟩:=q4d v {v with Votes:=q0o (v.Votes++[x])};dsimp only;rw[h4];exact(q2s _).2.2.2.2
    .obtain⟨s,_,h4,_⟩:=q4d v {v with Votes:=q0o (v.Votes++[x])};dsimp only;rw[h4];exact(q2s _).2.2.1
theorem y1b(hv:q21 v=true)(h:(declV v t).2=0):Step v (declV v t).1/\(declV v t).1.Heard=v.Heard:=by
 obtain⟨hr,hc⟩:=q14.1 hv;unfold declV at h⊢;rw[if_neg (by simp_all)]at h⊢;split at h;·omega
 .rename_i h1;rw[if_neg h1];split;·exact⟨qqz hv,rfl⟩
  .refine⟨qfi (hr.withT ((q4v t).1 (by omega))) hc rfl rfl (fun _ h=>h) rfl rfl,?_⟩;obtain⟨s,_,h4,_⟩:=q4d v {v with Trust:=t};dsimp only;rw[h4];exact(q2s _).2.2.2.2
theorem qfp(hv:q21 v=true)(hm:msgB m=true)(hn:m.Node≠v.Node)(ho:oldB v.Heard m=false):hearV v m=(turnV v {v with Heard:=hearL m v.Heard},0):=by unfold hearV;simp_all
theorem qip(h:(hearV v m).2=0):msgB m=true/\m.Node≠v.Node/\oldB v.Heard m=false:=by unfold hearV at h;grind
theorem y5o(hv:q21 v=true)(h:(hearV v m).2=0):Step v (hearV v m).1/\(hearV v m).1.Heard=hearL m v.Heard:=by obtain⟨hr,hc⟩:=q14.1 hv;obtain⟨h1,h2,h3⟩:=qip h;rw[qfp hv h1 h2 h3];refine⟨qfi (hr.withH h1 h2) hc rfl rfl (fun _ h=>h) rfl rfl,?_⟩;obtain⟨s,_,h4,_⟩:=q4d v {v with Heard:=hearL m v.Heard};dsimp only;rw[h4];exact(q2s _).2.2.2.2
theorem qzs(hu:Ready u):SmallV (turnV b u):=by obtain⟨s,_,h2,_⟩:=q4d b u;rw[h2];exact hu.settle.smallS s
theorem qiz{n:Int}(hn:inR n=true)(ht:valid t=true):ql9 n t=(⟨n,1,t,[],[],[],[]⟩,0)/\q21 ⟨n,1,t,[],[],[],[]⟩=true:=by
 constructor;·rw[ql9,if_neg (by simp_all),if_neg (by rw[(q4v t).2 ht];simp)]
 .rw[q14];exact⟨⟨hn,⟨by simp,by simp⟩,ht,rfl,rfl,rfl,by rfl,(fun x hx=>by omega),rfl⟩,by rfl⟩
variable {S : LV} {b : Nat}
def atV(S:LV)(b:Nat):Voter:=S.getD b q7h
theorem q2b(h:b<S.length):S[b]?=some (atV S b):=by unfold atV;simp_all
theorem ybv(h:b<S.length)(x:Voter)(c:Nat):atV (S.set b x) c=if b=c then x else atV S c:=by unfold atV;grind
end Go.Proofs.YtdmfjabikomgiaaGreat
namespace Go.Proofs.YtdmfjabikomgiaaGreat
open Go Go.Ab Go.Sort
end Go.Proofs.YtdmfjabikomgiaaGreat
namespace Go.Proofs.YtdmfjabikomgiaaGreat
open Go Go.Ab Go.Sort
end Go.Proofs.YtdmfjabikomgiaaGreat
namespace Go.Proofs.YtdmfjabikomgiaaGreat
open Go Go.Ab
variable {c : Config}
theorem ValidC.bears(h:ValidC c):Bears c:=⟨by have:=h.1;omega,fun m hm=>by
 have hv:=h.2 m hm;unfold MemV at hv;split at hv;·exact q34 hv.1
 .rw[hv];exact⟨by simp[Fits,blank,size,sizes],by rfl⟩⟩
theorem Bears.small'(h:Bears c):q31 c:=⟨by have:=h.1;omega,fun m hm=>(h.2 m hm).1.small⟩
theorem ValidC.small(h:ValidC c):q31 c:=h.bears.small'
end Go.Proofs.YtdmfjabikomgiaaGreat
namespace Go.Proofs.YtdmfjabikomgiaaGreat
open Go Go.Ab Go.Sort
section
variable {c : Config} {R : Nat -> Nat}
end
section
variable {c : Config} {R : Nat -> Nat}
end
theorem qux{n u:Nat}:u<2^n↔Sub u (2^n-1):=by
 constructor;·intro h i hi;rw[Nat.testBit_two_pow_sub_one,dT];refine Nat.lt_of_not_le fun hle=>?_;have:=Nat.ge_two_pow_of_testBit hi;have:=Nat.pow_le_pow_right (n:=2) (by decide) hle;omega
 .intro h;have:=yis h;grind
theorem y7d{a:Nat}(h:1<=a)(ha:a<4611686018427387904):subI .i64 (a:Int) 1=((a-1:Nat):Int):=qp4 (b:=1) h ha
theorem qvb{n:Nat}(hn:n<=10):subI .i64 (shlI .i64 1 ((n:Nat):Int)) 1=((2^n-1:Nat):Int):=by have hp:=pow10 hn;have hp1:=Nat.two_pow_pos n;rw[shl1 (by omega) (by omega),tN,y7d (by omega) (by omega)]
end Go.Proofs.YtdmfjabikomgiaaGreat
namespace Go.Proofs.YtdmfjabikomgiaaGreat
open Go Go.Ab Go.Sort
end Go.Proofs.YtdmfjabikomgiaaGreat
namespace Go.Proofs.YtdmfjabikomgiaaGreat
open Go Go.Ab Go.Sort
variable {n : Nat} {lo hi : Config}
end Go.Proofs.YtdmfjabikomgiaaGreat
namespace Go.Proofs.YtdmfjabikomgiaaGreat
open Go Go.Ab
variable {A B : LC}
def SubC(a b:LC):Prop:=∀x∈a,x∈b
theorem q7w:∀{A B:LC},A.Nodup->SubC A B->A.length<=B.length|[],_,_,_=>Nat.zero_le _|a::A,B,hn,h=>by obtain⟨h1,h2⟩:=List.nodup_cons.1 hn;have ha:=h a (by simp);have:=q7w (B:=B.erase a) h2 fun x hx=>(List.mem_erase_of_ne (fun(e:x=a)=>h1 (by rw[<-e];exact hx))).2 (h x (by simp[hx]));grind
theorem qho{l:LC}(h:plainC l=true):l.Nodup:=List.Pairwise.imp (fun{a b}(hab:ltc a b)=>fun(e:a=b)=>q6e a (by simp_all)) (q0w.1 h).2
theorem qzp(h:plainC A=true)(hs:SubC A B):A.length<=B.length:=q7w (qho h) hs
theorem qtk(h:plainC A=true)(h':plainC B=true)(hs:SubC A B)(hne:A≠B):A.length<B.length:=by
 rcases Nat.lt_or_ge A.length B.length with g|g;·exact g
 .refine absurd (qgj h h' fun x=>⟨hs x,fun hx=>?_⟩) hne;cases hd:decide (x∈A)with
  |true=>simp_all
  |false=>have hx':x∉A:=of_decide_eq_false hd;have:=q7w (A:=x::A) (B:=B) (List.nodup_cons.2 ⟨hx',qho h⟩) (fun y hy=>by
    rcases List.mem_cons.1 hy with e|hy;·subst e;exact hx
    .exact hs y hy);grind
end Go.Proofs.YtdmfjabikomgiaaGreat
