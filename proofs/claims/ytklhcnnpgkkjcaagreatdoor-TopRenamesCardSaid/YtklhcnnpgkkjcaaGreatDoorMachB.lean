/- append. copy: elements of a list go over into a part of an owned list. One operation, whichever it is. Literals of structs and slices. The operations that need no other function, all of them. Variables that nothing leads to are dropped. Owned lists that are lent to a callee as variables of their own. The last variable takes the place of one that nothing leads to. One operation in its region: the guard, the result's slot, a call. Code is walked: what the abstract machine computes, the model computes. Which variables a call is handed; numbers given and taken back. A function's way out: its results, and what is left of the variables. -/
import Derived.Test.YtklhcnnpgkkjcaaGreatDoorMachA
import Derived.DataBytes
import Derived.Tactics
import Derived.Lib.SliceRun
import Derived.Laws.Sem
namespace Go.Ab
variable {ys : List D} {b : Nat} {P : Program} {e t ty : TypeId}
variable {E : Env0} {X : Cx} {s s1 : St} {a : Act} {w : World}
theorem qr6{I:Nat->Nat->Prop}{off sz:Nat}{V:Nat->Nat->Value}(hs:∀x∈ys,x.cells.length=sz)(hz:0<sz)(hh:∀(i:Nat)x,ys[i]?=some x->∀(j:Nat)c,x.cells[j]?=some c->w.cell? ⟨b,off+i*sz+j,none⟩=some (V i j))(hr:∀(i:Nat)x,ys[i]?=some x->∀(j:Nat)c,x.cells[j]?=some c->Rep w I c (V i j)):∃news:List Value,news.length=ys.length*sz/\(∀(k:Nat)v,news[k]?=some v->w.cell? ⟨b,off+k,none⟩=some v)/\(∀(i:Nat)x,ys[i]?=some x->∀(j:Nat)c,x.cells[j]?=some c->∃u,news[i*sz+j]?=some u/\Rep w I c u)/\(∀(k:Nat)v,news[k]?=some v->∃x c,x∈ys/\c∈x.cells/\Rep w I c v):=by
 have key:∀k,k<ys.length*sz->∃x,ys[k/sz]?=some x/\∃c,x.cells[k%sz]?=some c:=by
  intro k hk;have h1:k/sz<ys.length:=Nat.div_lt_of_lt_mul (by rw[Nat.mul_comm];exact hk);have h2:k%sz<ys[k/sz].cells.length:=by rw[hs _ (List.getElem_mem _)];exact Nat.mod_lt _ hz
  exact⟨ys[k/sz],by simp[h1],_,List.getElem?_eq_getElem h2⟩
 refine⟨(List.range (ys.length*sz)).map fun k=>V (k/sz) (k%sz),by simp,fun k v hv=>?_,fun i x hx j c hj=>?_,fun k v hv=>?_⟩
 .simp only[List.getElem?_map,Option.map_eq_some_iff]at hv;obtain⟨k',hk',rfl⟩:=hv;have hkl:k<ys.length*sz:=by have:=(List.getElem?_eq_some_iff.1 hk').1;simpa using this
  have:k'=k:=by rw[List.getElem?_range hkl]at hk';cases hk';rfl
  subst this;obtain⟨x,hx,c,hc⟩:=key k' hkl;have:=hh _ x hx _ c hc;rw[Nat.add_assoc,Nat.mul_comm,Nat.div_add_mod]at this;exact this
 .have hi:i<ys.length:=(List.getElem?_eq_some_iff.1 hx).1;have hj':j<sz:=by rw[<-hs x (List.mem_of_getElem? hx)];exact(List.getElem?_eq_some_iff.1 hj).1
  have hb:(i+1)*sz<=ys.length*sz:=Nat.mul_le_mul_right _ hi;rw[Nat.add_mul]at hb;have hk:i*sz+j<ys.length*sz:=by omega
  have h1:(i*sz+j)/sz=i:=by rw[Nat.mul_comm,Nat.mul_add_div hz,Nat.div_eq_of_lt hj'];omega
  have h2:(i*sz+j)%sz=j:=by rw[Nat.mul_comm,Nat.mul_add_mod];exact Nat.mod_eq_of_lt hj'
  exact⟨V i j,by rw[List.getElem?_map,List.getElem?_range hk];simp[h1,h2],hr i x hx j c hj⟩
 grind
theorem qxp{w:World}{i:TypeInfo}(ht:P.underlying t=some (.slice e))(hi:P.info? e=some i)(v:Value){ad:Option Addr}{n c m c2:Nat}{ad2:Option Addr}(hv:v=.slice ad n c)(hm:m=0)(hle:n<=c):(Builtin.append_ #[t,t] ty #[v,.slice ad2 m c2]).run P w=.ok v w:=by
 subst hv hm;have hfc:(Builtin.firstCells i.size 0 (.slice ad2 0 c2)).run P w=.ok #[] w:=by cases ad2 with|none=>rfl|some b=>simp[Builtin.firstCells,loadCells,loadCellsFrom]
 cases ad with|none=>simp[Builtin.append_,run_underlying ht,sizeOf,typeInfo,hi,Builtin.lenOf,hle,hfc]|some b=>simp[Builtin.append_,run_underlying ht,sizeOf,typeInfo,hi,Builtin.lenOf,hle,hfc,storeCells]
theorem qb0{w:World}(t ty e e1:TypeId)(i:TypeInfo)(ht:P.underlying t=some (.slice e))(hi:P.info? e=some i)(g sLen sCap:Nat)(cur:Array Value)(hg:w.heap[g]?=some (.cells cur e1 (0,0)))(a:Addr)(m c:Nat)(news:List Value)(hl:news.length=m*i.size)(hnews:∀(j:Nat)u,news[j]?=some u->w.cell? (a.add j)=some u)(h1:∀u∈news,u.oneCell'=true)(hroom:sLen+m<=sCap)(hfit:sLen*i.size+news.length<=cur.size):(Builtin.append_ #[t,t] ty #[.slice (some ⟨g,0,none⟩) sLen sCap,.slice (some a) m c]).run P w=.ok (.slice (some ⟨g,0,none⟩) (sLen+m) sCap) (w.setRow g (cur.toList.take (sLen*i.size)++news++cur.toList.drop (sLen*i.size+news.length)).toArray):=by have hf:=run_firstCells_some (P:=P) w i.size m a m c news hl hnews;have hst:=run_storeCells_at P g (sLen*i.size) e1 news 0 cur w hg (by omega) h1;simp only[Nat.add_zero]at hst;simp[Builtin.append_,run_underlying ht,sizeOf,typeInfo,hi,Builtin.lenOf,hroom,hf,q39,hst]
theorem qab (h : Rel E X s a w) {xs : List D} {lt : Bool} {v u : Value} (hte : q1s E.P t = some e) (hb : q8e E.P e = some b) (hb2 : b <= 65536) (hzo : qjl E.P e = true)
  (hx : q3z E.P e xs = true) (hy : q3z E.P e ys = true) (hlen : xs.length + ys.length <= q0a) (ho : OwnOk w X (.res 0) xs lt v) (hu : Rep w X.imm (.list ys) u) :
  ∃ v' w1 X1, (Builtin.append_ #[t, t] ty #[v, u]).run E.P w = .ok v' w1 /\ X1.mu = X.mu /\ Ext X w X1 w1 /\ Rel E X1 s a w1 /\ OwnOk w1 X1 (.res 0) (xs ++ ys) lt v' /\ ∀ k, k < w.heap.size -> (∀ n, X.G k ≠ some (.res 0, n)) -> w1.heap[k]? = w.heap[k]? := by
 have ht := qgt hte;obtain ⟨i, hi, hbi⟩ := qtv hb;obtain ⟨g, sz, hg, hs, hallx⟩ := q41 hx;obtain ⟨g', sz', hg', hs', hally⟩ := q41 hy;rw [hs] at hs'; cases hs';obtain ⟨i3, hi3, hsi⟩ := qln hs;rw [hi] at hi3; cases hi3;obtain ⟨z, hz, hzs⟩ : ∃ z, q3d E.P e = some z /\ z.cells.size = sz := by
  unfold qjl at hzo
  grind
 obtain ⟨i4, hi4, hzi⟩ := qr3 hz;rw [hi] at hi4; cases hi4;unfold q0a at hlen;by_cases hy0 : ys = []
 .-- nothing is appended
  subst hy0;have hu' : ∃ ad2 c2, u = .slice ad2 0 c2 := by
   cases hu with
   | empty a0 c0 => simp
   | list _ b off cap sz V hs hc hh hr => simp
  obtain ⟨ad2, c2, rfl⟩ := hu';have hv : ∃ ad n c, v = .slice ad n c /\ n <= c := by
   rcases ho with ⟨_, a0, rfl⟩ | ⟨_, _, a0, n0, rfl⟩ | ⟨b0, cap, cur, e1, sz1, rfl, _, _, _, _, _, _, h8, _⟩
   .exact ⟨a0, 0, 0, rfl, Nat.le_refl _⟩
   .exact ⟨a0, n0, n0, rfl, Nat.le_refl _⟩
   grind
  obtain ⟨ad, n, c, hv1, hv2⟩ := hv;exact ⟨v, w, X, qxp ht hi v hv1 rfl hv2, rfl, Ext.refl X w, h, by simp_all, fun _ _ _ => rfl⟩
 .have hylen : 0 < ys.length := List.length_pos_iff.2 hy0;obtain ⟨y0, hy0m⟩ := List.exists_mem_of_ne_nil _ hy0;have hz0 : 0 < sz := (hally y0 hy0m).2.2.1;obtain ⟨ub, uoff, ucap, hu1, news, hnl, hnc, hnr, hnone⟩ : ∃ ub uoff ucap, u = .slice (some ⟨ub, uoff, none⟩) ys.length ucap /\ ∃ news : List Value, news.length = ys.length * sz /\ (∀ (k : Nat) v, news[k]? = some v -> w.cell? ⟨ub, uoff + k, none⟩ = some v) /\
    (∀ (i : Nat) x, ys[i]? = some x -> ∀ (j : Nat) c, x.cells[j]? = some c -> ∃ u, news[i * sz + j]? = some u /\ Rep w X.imm c u) /\ (∀ v ∈ news, v.oneCell' = true) := by
   cases hu with
   | empty a0 c0 => simp_all
   | list _ b0 off cap sz0 V hs0 hc0 hh hr =>
    have : sz0 = sz := by grind
    subst this;obtain ⟨news, h1, h2, h3, h4⟩ := qr6 hs0 hz0 (fun i x hx j c hj => (hh i x hx j c hj).1) hr;refine ⟨b0, off, cap, rfl, news, h1, h2, h3, fun v hv => ?_⟩;obtain ⟨k, hk, rfl⟩ := List.mem_iff_getElem.1 hv;obtain ⟨x, c, hxm, hcm, hrc⟩ := h4 k news[k] (by simp);have hca := (hally x hxm).2.2.2 c hcm;revert hrc;generalize news[k] = vv;intro hrc;cases hrc with
    | v _ h1 => omega
    | empty a c => rfl
    | list _ b off cap sz V hs hc hh hr => rfl
    | agg cs vs hn hr => cases hca
  subst hu1;have h47 : (xs.length + ys.length) * b <= 140737488355328 := by
   have := Nat.mul_le_mul hlen hb2;omega
  have hml : xs.length + ys.length <= maxLen := by unfold maxLen; omega
  have hnc' : ∀ (j : Nat) v, news[j]? = some v -> w.cell? ((⟨ub, uoff, none⟩ : Addr).add j) = some v := fun j v hv => by rw [q39]; simp_all
  have grow : ∀ (olds : List Value) (old : Nat), old < xs.length + ys.length -> olds.length = xs.length * sz -> (∀ (i : Nat) x, xs[i]? = some x -> ∀ (j : Nat) c, x.cells[j]? = some c -> ∃ u, olds[i * sz + j]? = some u /\ Rep w X.imm c u) ->
    ∃ X1, X1.mu = X.mu /\ Ext X w X1 (w.drew.alloc (.cells (olds.toArray ++ news.toArray ++ Builtin.zeroCells z.cells (grownCap w (xs.length + ys.length) old e - (xs.length + ys.length))) e)) /\
     Rel E X1 s a (w.drew.alloc (.cells (olds.toArray ++ news.toArray ++ Builtin.zeroCells z.cells (grownCap w (xs.length + ys.length) old e - (xs.length + ys.length))) e)) /\
     OwnOk (w.drew.alloc (.cells (olds.toArray ++ news.toArray ++ Builtin.zeroCells z.cells (grownCap w (xs.length + ys.length) old e - (xs.length + ys.length))) e)) X1 (.res 0) (xs ++ ys) lt (.slice (some ⟨w.heap.size, 0, none⟩) (xs.length + ys.length) (grownCap w (xs.length + ys.length) old e)) := by
   intro olds old hold holen hor;have hR := h.dropRes.drew;have hE1 : Ext X w (X.remap φres) w.drew := Ext.trans h.gdom (Ext.remap X w φres) (Ext.drew _ w);have hge := grownCap_ge w (xs.length + ys.length) old e;have hcm := grownCap_le_maxLen w (xs.length + ys.length) old e hml;obtain ⟨X1, hmu, hE, hR1, hO⟩ := hR.newOwn (e := e) (lt := lt) (xs := xs ++ ys) (cap := grownCap w (xs.length + ys.length) old e) (sz := sz)
    (cur := olds.toArray ++ news.toArray ++ Builtin.zeroCells z.cells (grownCap w (xs.length + ys.length) old e - (xs.length + ys.length)))
    (fun x hx => by rcases List.mem_append.1 hx with hx | hx; exact (hallx x hx).1; exact (hally x hx).1) hz0 (by simp [hy0])
    (by simp only [Array.size_append, List.size_toArray, size_zeroCells, hzs, holen, hnl, <- Nat.add_mul]; congr 1; omega) (by simpa using hge) hcm (fun i' x hx' j c hj => by
     have hjs : j < sz := by
      have hm' := List.mem_of_getElem? hx';have := (List.getElem?_eq_some_iff.1 hj).1;rcases List.mem_append.1 hm' with hm' | hm'
      .rw [(hallx _ hm').1] at this; exact this
      .rw [(hally _ hm').1] at this; exact this
     have hrep : ∀ {c u}, Rep w X.imm c u -> Rep w.drew (X.remap φres).imm c u := fun hr => hE1.rep hr
     by_cases hlt : i' < xs.length
     .rw [List.getElem?_append_left hlt] at hx';obtain ⟨u, h1, h2⟩ := hor i' x hx' j c hj;refine ⟨u, ?_, hrep h2⟩;have hlo := (List.getElem?_eq_some_iff.1 h1).1;rw [Array.append_assoc, Array.getElem?_append_left (by simpa using hlo)];simpa using h1
     .have hge' : xs.length <= i' := by omega
      rw [List.getElem?_append_right hge'] at hx';obtain ⟨u, h1, h2⟩ := hnr (i' - xs.length) x hx' j c hj;refine ⟨u, ?_, hrep h2⟩;have hln := (List.getElem?_eq_some_iff.1 h1).1;have e1 : i' * sz + j = xs.length * sz + ((i' - xs.length) * sz + j) := by
       have : i' * sz = xs.length * sz + (i' - xs.length) * sz := by rw [<- Nat.add_mul]; congr 1; omega
       omega
      rw [Array.getElem?_append_left (by simp [holen]; omega), e1, Array.getElem?_append_right (by simp [holen])];simp [holen];simpa using h1)
   refine ⟨X1, by simpa [Cx.remap] using hmu, Ext.trans h.gdom hE1 hE, hR1, ?_⟩
   simp_all
  have hfit : ∀ old, old < xs.length + ys.length -> Builtin.nextslicecap (xs.length + ys.length) old * i.bytes <= 281474976710656 := fun old hold => growslice_fits hold (by simp_all)
  have h63 : ((xs.length + ys.length : Nat) : Int) <= 9223372036854775807 := by omega
  have noOld : xs = [] -> ∀ (i : Nat) x, xs[i]? = some x -> ∀ (j : Nat) c, x.cells[j]? = some c -> ∃ u, ([] : List Value)[i * sz + j]? = some u /\ Rep w X.imm c u := fun e i x hx => by simp_all
  rcases ho with ⟨hxe, a0, rfl⟩ | ⟨hlt, hrx, a0, n0, hv⟩ | ⟨b0, cap, cur, e1, sz1, rfl, hg1, hw1, hs1, hz1, hne1, hsz1, hc1, hm1, hr1⟩
  .obtain ⟨X1, hmu, hE, hR1, hO⟩ := grow [] 0 (by omega) (by simp_all) (noOld hxe);cases a0 with
   | none =>
    have hrun := run_append_nil (P := E.P) w t ty e i z ht hi hzi ⟨ub, uoff, none⟩ ys.length ucap news (by simp_all) hnc' hylen (by omega) (by grind);have hx0 : xs.length = 0 := by simp_all
    rw [hx0, Nat.zero_add] at hE hR1 hO;simp only [Array.empty_append] at hE hR1 hO;exact ⟨_, _, X1, hrun, hmu, hE, hR1, hO, fun k hk _ => heap_alloc_old _ _ k hk⟩
   | some ad =>
    have hx0 : xs.length = 0 := by simp_all
    have hrun := run_append_grow (P := E.P) w t ty e i z ht hi hzi ad 0 0 [] (by simp) (fun j v hv => by grind) ⟨ub, uoff, none⟩ ys.length ucap news (by simp_all) hnc' (by omega) (by omega) (by simp_all);rw [hx0] at hE hR1 hO;exact ⟨_, _, X1, hrun, hmu, hE, hR1, hO, fun k hk _ => heap_alloc_old _ _ k hk⟩
  .by_cases hxe : xs = []
   .subst hxe;have hv0 : v = .slice a0 0 0 := by
     have : n0 = 0 := by
      rw [hv] at hrx;generalize hq : Value.slice a0 n0 n0 = q at hrx;cases hrx with
      | empty a c => cases hq; rfl
      | list _ b off cap sz V hs hc hh hr => cases hq; rfl
     simp_all
    obtain ⟨X1, hmu, hE, hR1, hO⟩ := grow [] 0 (by omega) (by simp) (noOld rfl);simp only [List.length_nil, Nat.zero_add] at hE hR1 hO h63 h47 hfit;cases a0 with
    | none =>
     have hrun := run_append_nil (P := E.P) w t ty e i z ht hi hzi ⟨ub, uoff, none⟩ ys.length ucap news (by simp_all) hnc' hylen h63 (by grind);rw [hv0];simp only [Array.empty_append] at hE hR1 hO;exact ⟨_, _, X1, hrun, hmu, hE, hR1, hO, fun k hk _ => heap_alloc_old _ _ k hk⟩
    | some ad =>
     have hrun := run_append_grow (P := E.P) w t ty e i z ht hi hzi ad 0 0 [] (by simp) (fun j v hv => by grind) ⟨ub, uoff, none⟩ ys.length ucap news (by simp_all) hnc' (by omega) (by omega) (by grind);rw [hv0];simp only [Nat.zero_add] at hrun;exact ⟨_, _, X1, hrun, hmu, hE, hR1, hO, fun k hk _ => heap_alloc_old _ _ k hk⟩
   .obtain ⟨x0, hx0m⟩ := List.exists_mem_of_ne_nil _ hxe;generalize hq : v = q at hrx;cases hrx with
    | empty a c => simp_all
    | list _ b1 off1 cap1 sz1 V1 hs1 hc1 hh1 hr1 =>
     have hsz1 : sz1 = sz := by grind
     subst hsz1;rw [hv] at hq;cases hq;obtain ⟨olds, g1, g2, g3, _⟩ := qr6 hs1 hz0 (fun i x hx j c hj => (hh1 i x hx j c hj).1) hr1;obtain ⟨X1, hmu, hE, hR1, hO⟩ := grow olds xs.length (by omega) g1 g3;have hrun := run_append_grow (P := E.P) w t ty e i z ht hi hzi ⟨b1, off1, none⟩ xs.length xs.length olds (by simp_all) (fun j v hv => by rw [q39]; simp_all) ⟨ub, uoff, none⟩ ys.length ucap news (by simp_all) hnc' (by omega) h63 (hfit _ (by omega));exact ⟨_, _, X1, hrun, hmu, hE, hR1, hO, fun k hk _ => heap_alloc_old _ _ k hk⟩
  .obtain ⟨x0, hx0m⟩ := List.exists_mem_of_ne_nil _ hne1;have hszz : sz1 = sz := by grind
   subst hszz;by_cases hroom : xs.length + ys.length <= cap
   .-- in place
    have hbnd : (xs.length + ys.length) * sz1 <= cap * sz1 := Nat.mul_le_mul_right _ hroom;rw [Nat.add_mul] at hbnd;have hrun := qb0 (P := E.P) (w := w) t ty e e1 i ht hi b0 xs.length cap cur hw1 ⟨ub, uoff, none⟩ ys.length ucap news (by simp_all) hnc' hnone hroom (by simp_all);rw [hsi] at hrun;generalize hW : w.setRow b0 (cur.toList.take (xs.length * sz1) ++ news ++ cur.toList.drop (xs.length * sz1 + news.length)).toArray = w' at hrun;have hother : ∀ k, k ≠ b0 -> w'.heap[k]? = w.heap[k]? := fun k hk => by rw [<- hW]; exact setRow_other w b0 k _ hk
    have hnew : w'.heap[b0]? = some (.cells (cur.toList.take (xs.length * sz1) ++ news ++ cur.toList.drop (xs.length * sz1 + news.length)).toArray e1 (0, 0)) := by rw [<- hW]; exact setRow_heap w b0 cur _ e1 _ hw1
    have hget : ∀ j : Nat, (cur.toList.take (xs.length * sz1) ++ news ++ cur.toList.drop (xs.length * sz1 + news.length)).toArray[j]? = if xs.length * sz1 <= j /\ j < xs.length * sz1 + news.length then news[j - xs.length * sz1]? else cur[j]? := fun j => by
     have := q6v cur.toList news (xs.length * sz1) j (by simp; omega)
     grind
    have hE : Ext X w (X.lockAt b0 (.res 0) (if lt then (xs.length + ys.length) * sz1 else 0)) w' := by
     refine ⟨rfl, by rw [<- hW]; simp, by rw [<- hW]; rfl, by rw [<- hW]; rfl, by rw [<- hW]; rfl, fun k hk hx' => ?_, fun k l n hx' => ⟨fun l' k' h' => ?_, fun q hq => ?_⟩⟩
     .have : k ≠ b0 := fun e => by grind
      exact ⟨by simp [Cx.lockAt, this, hx'], hother k this⟩
     .simp only [Cx.lockAt] at h'
      grind
     .by_cases ek : k = b0
      .subst ek;rw [hg1] at hx';simp only [sI, pI] at hx';obtain ⟨_, rfl⟩ := hx';have hq2 : q < xs.length * sz1 := by
        grind
       rw [cell_of_row w' k q _ e1 (0, 0) hnew, hget, if_neg (by omega), cell_of_row w k q cur e1 (0, 0) hw1]
      .exact cell?_of_heap (hother k ek) q
    refine ⟨_, _, X.lockAt b0 (.res 0) (if lt then (xs.length + ys.length) * sz1 else 0), hrun, rfl, hE, h.bg hE rfl (fun l hl _ _ k n hx' => ?_) (fun k l n hx' => ?_), .inr (.inr ⟨b0, cap, _, e1, sz1, by simp, by simp [Cx.lockAt], hnew, fun x hx => ?_, hz0, by simp [hne1], by grind, by grind, hm1, fun i' x hx' j c hj => ?_⟩), fun k _ hk => hother k fun e => (by grind)⟩
    .have : k ≠ b0 := fun e => by rw [e, hg1] at hx'; simp only [sI, pI] at hx'; rw [<- hx'.1] at hl; cases hl
     exact ⟨by simp [Cx.lockAt, this, hx'], hother k this⟩
    .simp only [Cx.lockAt] at hx';split at hx'
     .rename_i ek;subst ek;exact ⟨by grind, h.oamb k _ _ hg1⟩
     .exact ⟨by rw [<- hW]; simpa using h.gdom k _ _ hx', h.oamb k _ _ hx'⟩
    .grind
    .have hjs : j < sz1 := by
      grind
     by_cases hlt : i' < xs.length
     .rw [List.getElem?_append_left hlt] at hx';obtain ⟨u, h1, h2⟩ := hr1 i' x hx' j c hj;have hb3 : (i' + 1) * sz1 <= xs.length * sz1 := Nat.mul_le_mul_right _ hlt;rw [Nat.add_mul] at hb3;exact ⟨u, by rw [hget, if_neg (by omega)]; omega, hE.rep h2⟩
     .have hge' : xs.length <= i' := by omega
      rw [List.getElem?_append_right hge'] at hx';obtain ⟨u, h1, h2⟩ := hnr (i' - xs.length) x hx' j c hj;have hln := (List.getElem?_eq_some_iff.1 h1).1;have e3 : i' * sz1 = xs.length * sz1 + (i' - xs.length) * sz1 := by rw [<- Nat.add_mul]; grind
      refine ⟨u, ?_, hE.rep h2⟩;rw [hget, if_pos ⟨by omega, by omega⟩, <- h1];congr 1
      omega
   .have hcl : ∀ (j : Nat) v, (cur.toList.take (xs.length * sz1))[j]? = some v -> w.cell? ((⟨b0, 0, none⟩ : Addr).add j) = some v := fun j v hv => by
     rw [q39, Nat.zero_add, cell_of_row w b0 j cur e1 (0, 0) hw1]
     grind
    have hlt2 : (cur.toList.take (xs.length * sz1)).length = xs.length * sz1 := by
     simp_all
    obtain ⟨X1, hmu, hE, hR1, hO⟩ := grow (cur.toList.take (xs.length * sz1)) cap (by omega) hlt2 (fun i' x hx' j c hj => by
     obtain ⟨u, h1, h2⟩ := hr1 i' x hx' j c hj;have hi' : i' < xs.length := (List.getElem?_eq_some_iff.1 hx').1;have hjs : j < sz1 := by grind
     have hb3 : (i' + 1) * sz1 <= xs.length * sz1 := Nat.mul_le_mul_right _ hi';rw [Nat.add_mul] at hb3;exact ⟨u, by rw [List.getElem?_take, if_pos (by omega)]; simp_all, h2⟩)
    have hrun := run_append_grow (P := E.P) w t ty e i z ht hi hzi ⟨b0, 0, none⟩ xs.length cap (cur.toList.take (xs.length * sz1)) (by simp_all) hcl ⟨ub, uoff, none⟩ ys.length ucap news (by simp_all) hnc' (by omega) h63 (hfit _ (by omega));exact ⟨_, _, X1, hrun, hmu, hE, hR1, hO, fun k hk _ => heap_alloc_old _ _ k hk⟩
end Go.Ab

namespace Go.Ab
variable {y : Operand} {ys : List D} {P : Program} {e t ty u : TypeId} {c1 c2 n1 n2 : Nat}
variable {E : Env0} {X : Cx} {s s1 : St} {a : Act} {w : World}
theorem y3s{I:Nat->Nat->Prop}{c:D}{v:Value}(hc:c.isAgg=false)(h:Rep w I c v):v.oneCell'=true:=by cases h with|v x h1=>omega|empty a c=>rfl|list xs b off cap sz V hs hc hh hr=>rfl|agg cs vs hn hr=>cases hc
theorem qv5(h:Rel E X s a w)(hy:copySrc E s y=some ys):∃ad c2,a.eval y=.slice ad ys.length c2/\(0<ys.length->∃b o sz,ad=some ⟨b,o,none⟩/\(∀y∈ys,y.cells.length=sz)/\∀(i:Nat)x,ys[i]?=some x->∀(j:Nat)c,x.cells[j]?=some c->∃u,w.cell? ⟨b,o+i*sz+j,none⟩=some u/\Rep w X.imm c u):=by
 unfold copySrc at hy;split at hy;·rename_i zs hx;simp only[sI]at hy;subst hy;have hr:=q74 h hx;generalize a.eval y=u at hr;cases hr with|empty a0 c0=>simp|list _ b off cap sz V hs hc hh hrr=>exact⟨_,cap,rfl,fun _=>⟨b,off,sz,rfl,hs,fun i x hx j c hj=>⟨V i j,(hh i x hx j c hj).1,hrr i x hx j c hj⟩⟩⟩
 .split at hy;·rename_i p lo hi hev;cases hct:content s p with
   |own xs l=>
    simp only[hct]at hy;split at hy
    .rename_i hle;simp only[sI]at hy;subst hy;obtain⟨L,hr⟩:=h.operand y;rw[hev]at hr;obtain⟨ad,c',e1,e2,e3⟩:=hr.2 xs l hct;have hlen:((xs.take hi).drop lo).length=hi-lo:=by simp;omega
     refine⟨ad,c',by rw[e1,hlen],fun h0=>?_⟩;rw[hlen]at h0;obtain⟨b,o0,nn,cap,sz,g1,g2,rfl⟩:=e3 (by omega);obtain⟨val,hval,hown⟩:=h.place hct (by simp) rfl (by simp) (by simp);refine⟨b,o0+lo*sz,sz,rfl,fun y hy=>g2 y (List.mem_of_mem_take (List.mem_of_mem_drop hy)),fun i x hx j c hj=>?_⟩;have hx':xs[lo+i]?=some x:=by
      rw[List.getElem?_drop,List.getElem?_take]at hx;split at hx;·exact hx
      .cases hx
     obtain⟨b',o0',cap',h4,h5,h6⟩:=OwnOk.elem hown hx';rw[g1]at hval;cases hval;cases h4;have hsz:x.cells.length=sz:=g2 x (List.mem_of_getElem? hx');obtain⟨u,hu,hru⟩:=h6 j c hj;rw[hsz,Nat.add_mul,<-Nat.add_assoc]at hu;exact⟨u,hu,hru⟩
    .cases hy|_=>simp[hct]at hy
  simp_all
theorem Rel.writeRow{E:Env0}{X:Cx}{s:St}{a:Act}{w:World}(h:Rel E X s a w){p:Place}{xs:List D}{lo sz b o0 nn cap0:Nat}{us:List Value}(hc:content s p=.own xs false)(hn:0<ys.length)(hle:lo+ys.length<=xs.length)(hxs:∀x∈xs,x.cells.length=sz)(hys:∀y∈ys,y.cells.length=sz)(hlen:us.length=ys.length*sz)(hr:∀(i:Nat)y,ys[i]?=some y->∀(j:Nat)c,y.cells[j]?=some c->∃u,us[i*sz+j]?=some u/\Rep w X.imm c u)(hv:cval X a w p=some (.slice (some ⟨b,o0,none⟩) nn cap0)):∃cur e,o0=0/\w.heap[b]?=some (.cells cur e (0,0))/\lo*sz+us.length<=cur.size/\Ext X w X (w.setRow b (cur.toList.take (lo*sz)++us++cur.toList.drop (lo*sz+us.length)).toArray)/\Rel E X (lendPlace s p (.own (xs.take lo++ys++xs.drop (lo+ys.length)) false)) a (w.setRow b (cur.toList.take (lo*sz)++us++cur.toList.drop (lo*sz+us.length)).toArray):=by
 obtain⟨val,hval,hown⟩:=h.place hc (by simp) rfl (by simp) (by simp);rw[hv]at hval;have hx0:0<xs.length:=by omega
 rcases hown with⟨rfl,_⟩|⟨h0,_⟩|⟨b',cap,cur,e,sz1,rfl,hg,hw,hs,hz,hne,hsz,hcap,hmax,hcells⟩;·simp_all
 .grind
 simp only[sI,Value.slice.injEq]at hval;obtain⟨ga,_,_⟩:=hval;simp only[Addr.mk.injEq,and_true]at ga;obtain⟨rfl,rfl⟩:=ga;have hsz1:sz1=sz:=by rw[<-hs xs[0] (List.getElem_mem hx0),hxs xs[0] (List.getElem_mem hx0)]
 subst hsz1;simp only[fT,if_false]at hg;have hbound:(lo+ys.length)*sz1<=cap*sz1:=Nat.mul_le_mul_right _ (by omega);rw[Nat.add_mul]at hbound;have hfit:lo*sz1+us.length<=cur.size:=by omega
 refine⟨cur,e,rfl,hw,hfit,?_⟩;generalize hW:w.setRow b (cur.toList.take (lo*sz1)++us++cur.toList.drop (lo*sz1+us.length)).toArray=w';have hother:∀k,k≠b->w'.heap[k]?=w.heap[k]?:=fun k hk=>by rw[<-hW];exact setRow_other w b k _ hk
 have hnew:w'.heap[b]?=some (.cells (cur.toList.take (lo*sz1)++us++cur.toList.drop (lo*sz1+us.length)).toArray e (0,0)):=by rw[<-hW];exact setRow_heap w b cur _ e _ hw
 have hE:Ext X w X w':=by
  refine⟨rfl,by rw[<-hW];simp,by rw[<-hW];rfl,by rw[<-hW];rfl,by rw[<-hW];rfl,fun k hk hx'=>⟨hx',hother k (fun e=>by simp_all)⟩,fun k l n hx'=>⟨fun l' k' h'=>by simp_all,fun q hq=>?_⟩⟩;by_cases ek:k=b;·grind
  .exact cell?_of_heap (hother k ek) q
 have hk:∀l,l≠locOf p->q4t X w X w' l:=fun l hl k n hx'=>⟨hx',hother k (fun e=>by simp_all)⟩;have hnl:(xs.take lo++ys++xs.drop (lo+ys.length)).length=xs.length:=by grind
 have hnm:∀y∈xs.take lo++ys++xs.drop (lo+ys.length),y∈xs\/y∈ys:=fun y hy=>by grind
 have hval':cval X a w p=some (.slice (some ⟨b,0,none⟩) xs.length cap):=by simp_all
 refine⟨hE,h.ownUpdate hc hval' rfl hE hk (fun b' l k e'=>⟨by rw[<-hW];simpa using h.gdom b' l k e',h.oamb b' l k e'⟩) ?_ (fun sz hs'=>fun y hy=>?_)⟩
 .refine .inr (.inr ⟨b,cap,_,e,sz1,by grind,by simp_all,hnew,fun y hy=>?_,hz,fun e=>by simp_all,by grind,by omega,hmax,fun i' x' hx' j c hj=>?_⟩);·grind
  .have hjs:j<sz1:=by grind
   have hget:=q6v cur.toList us (lo*sz1) (i'*sz1+j) (by omega);by_cases h1:i'<lo;·rw[List.append_assoc,List.getElem?_append_left (by simp;omega),List.getElem?_take,if_pos h1]at hx';obtain⟨u,hu,hru⟩:=hcells i' x' hx' j c hj;refine⟨u,?_,hE.rep hru⟩;have:(i'+1)*sz1<=lo*sz1:=Nat.mul_le_mul_right _ (by omega);grind
   .by_cases h2:i'<lo+ys.length
    .rw[List.append_assoc,List.getElem?_append_right (by simp;omega),List.getElem?_append_left (by simp;omega)]at hx';have e1:i'-(xs.take lo).length=i'-lo:=by simp;omega
     rw[e1]at hx';obtain⟨u,hu,hru⟩:=hr (i'-lo) x' hx' j c hj;refine⟨u,?_,hE.rep hru⟩;have e2:i'*sz1+j-lo*sz1=(i'-lo)*sz1+j:=by have:lo*sz1<=i'*sz1:=Nat.mul_le_mul_right _ (by omega);rw[Nat.sub_mul];omega
     have e3:lo*sz1<=i'*sz1:=Nat.mul_le_mul_right _ (by omega);grind
    .rw[List.getElem?_append_right (by simp;omega),List.getElem?_drop]at hx';have e1:lo+ys.length+(i'-(xs.take lo++ys).length)=i':=by simp;omega
     rw[e1]at hx';obtain⟨u,hu,hru⟩:=hcells i' x' hx' j c hj;refine⟨u,?_,hE.rep hru⟩;have:(lo+ys.length)*sz1<=i'*sz1:=Nat.mul_le_mul_right _ (by omega);grind
 .rcases hnm y hy with hy|hy;·simp_all
  .rw[hys y hy,<-hxs xs[0] (List.getElem_mem hx0)];simp_all
theorem qjv{w:World}{e1:TypeId}{i:TypeInfo}(ht:P.underlying t=some (.slice e))(hi:P.info? e=some i){g o:Nat}{cur:Array Value}(hg:w.heap[g]?=some (.cells cur e1 (0,0)))(ad:Addr)(news:List Value)(hl:news.length=min n2 n1*i.size)(hnews:∀(j:Nat)u,news[j]?=some u->w.cell? (ad.add j)=some u)(h1:∀u∈news,u.oneCell'=true)(hfit:o+news.length<=cur.size):(Builtin.copy_ #[t,u] ty #[.slice (some ⟨g,o,none⟩) n1 c1,.slice (some ad) n2 c2]).run P w=.ok (goInt ((min n2 n1:Nat):Int)) (w.setRow g (cur.toList.take o++news++cur.toList.drop (o+news.length)).toArray):=by have hf:=run_firstCells_some (P:=P) w i.size (min n2 n1) ad n2 c2 news hl hnews;have hst:=run_storeCells_at P g o e1 news 0 cur w hg (by omega) h1;simp only[Nat.add_zero]at hst;have hmin:Nat.min n2 n1=min n2 n1:=rfl;simp[Builtin.copy_,run_underlying ht,sizeOf,typeInfo,hi,Builtin.lenOf,hmin,hf,hst]
theorem qrr{w:World}{i:TypeInfo}(ht:P.underlying t=some (.slice e))(hi:P.info? e=some i){ad1 ad2:Option Addr}(h0:min n2 n1=0):(Builtin.copy_ #[t,u] ty #[.slice ad1 n1 c1,.slice ad2 n2 c2]).run P w=.ok (goInt 0) w:=by
 have hfc:(Builtin.firstCells i.size 0 (.slice ad2 n2 c2)).run P w=.ok #[] w:=by cases ad2 with|none=>rfl|some b=>simp[Builtin.firstCells,loadCells,loadCellsFrom]
 have hmin:Nat.min n2 n1=0:=h0;cases ad1 with|none=>simp[Builtin.copy_,run_underlying ht,sizeOf,typeInfo,hi,Builtin.lenOf,hmin,hfc]|some b=>simp[Builtin.copy_,run_underlying ht,sizeOf,typeInfo,hi,Builtin.lenOf,hmin,hfc,storeCells]
theorem y0z(h:Rel E X s a w)(o:Oper){x:Operand}{args:Array Operand}{ts:Array TypeId}(ho:o.op=.call {callee:=.builtin .copy,args:=args,argTypes:=ts})(ha:args.toList=[x,y])(hts:ts.toList=[t,u]){v:AV}(hp:qdx E t u x y s=some (v,s1)):Sound E X a w ((execOp a.eval o).run E.P w) v s1:=by
 obtain rfl:args=#[x,y]:=by apply Array.ext';simpa using ha
 obtain rfl:ts=#[t,u]:=by apply Array.ext';simpa using hts
 obtain⟨cs,hcs⟩:=q16 (P:=E.P) ho a w;rw[hcs];unfold qdx at hp;split at hp
 .rename_i p lo hi ys e e' hev hsrc hte hte';split at hp
  .rename_i xs hct;split at hp
   .rename_i hcond;obtain⟨hle,hxe,hye⟩:=hcond;simp only[sI,pI]at hp;obtain⟨rfl,rfl⟩:=hp;have ht:=qgt hte;obtain⟨L,hr⟩:=h.operand x;rw[hev]at hr;obtain⟨ad,c',e1,e2,e3⟩:=hr.2 xs false hct;obtain⟨ad2,c2,f1,f2⟩:=qv5 h hsrc;obtain⟨g,sz0,hg,hn,hall⟩:=q41 hxe;obtain⟨g',sz0',hg',hn',hall'⟩:=q41 hye;rw[hn]at hn';cases hn';have hinf:∃i,E.P.info? e=some i/\i.size=sz0:=by simp only[q0f,Option.map_eq_some_iff]at hn;exact hn
    obtain⟨i,hi1,hi2⟩:=hinf;by_cases h0:min (hi-lo) ys.length=0
    .have hs:(lendPlace s p (.own (xs.take lo++ys.take (hi-lo)++xs.drop (lo+min (hi-lo) ys.length)) false))=lendPlace s p (.own xs false):=by
      have:ys.take (hi-lo)=[]:=by
       rw[List.take_eq_nil_iff];rcases Nat.min_eq_zero_iff.1 h0 with h|h;·exact .inl h
       .exact .inr (List.length_eq_zero_iff.1 h)
      rw[this,h0,Nat.add_zero,List.append_nil,List.take_append_drop]
     rw[hs];obtain⟨val,hval,hown⟩:=h.place hct (by simp) rfl (by simp) (by simp);have hR:Rel E X (lendPlace s p (.own xs false)) a w:=by refine h.ownUpdate hct hval rfl (Ext.refl X w) (fun l _ b k e=>⟨e,rfl⟩) (fun b l k e=>⟨h.gdom b l k e,h.oamb b l k e⟩) hown (fun sz hs=>hs)
     refine⟨.int .i64 0,w,X,?_,⟨[],by simp⟩,Ext.refl X w,hR,?_⟩;·have:=qrr (P:=E.P) (w:=w) (u:=u) (ty:=o.type) ht hi1 (n1:=hi-lo) (c1:=c') (n2:=ys.length) (c2:=c2) (ad1:=ad) (ad2:=ad2) (by omega);simp[builtin,e1,f1,this,goInt]
     .rw[h0];exact RVe_d (.v _ rfl)
    .have hpos:0<ys.length:=by omega
     have hlt:lo<hi:=by omega
     obtain⟨b,o0,nn,cap,sz,g1,g2,rfl⟩:=e3 hlt;obtain⟨b2,o2,sz2,rfl,k2,k3⟩:=f2 hpos;have hxs0:0<xs.length:=by omega
     have hsz:sz=sz0:=by rw[<-g2 xs[0] (List.getElem_mem hxs0),(hall xs[0] (List.getElem_mem hxs0)).1]
     have hsz2:sz2=sz0:=by rw[<-k2 ys[0] (List.getElem_mem hpos),(hall' ys[0] (List.getElem_mem hpos)).1]
     have hzp:0<sz0:=(hall xs[0] (List.getElem_mem hxs0)).2.2.1;subst hsz hsz2;have hty:(ys.take (hi-lo)).length=min (hi-lo) ys.length:=by simp
     let V:Nat->Nat->Value:=fun i j=>(w.cell? ⟨b2,o2+i*sz2+j,none⟩).getD undef;obtain⟨news,n1,n2,n3,n4⟩:=qr6 (w:=w) (I:=X.imm) (ys:=ys.take (hi-lo)) (b:=b2) (off:=o2) (sz:=sz2) (V:=V) (fun y hy=>k2 y (List.mem_of_mem_take hy)) hzp (fun i x hx j c hj=>by
       have hx':ys[i]?=some x:=by rw[List.getElem?_take]at hx;split at hx;exact hx;cases hx
       obtain⟨u,hu,_⟩:=k3 i x hx' j c hj;simp[V,hu]) (fun i x hx j c hj=>by
       have hx':ys[i]?=some x:=by rw[List.getElem?_take]at hx;split at hx;exact hx;cases hx
       obtain⟨u,hu,hru⟩:=k3 i x hx' j c hj;simpa[V,hu]using hru);rw[hty]at n1;obtain⟨cur,ee,rfl,q1,q2,q3,q4⟩:=h.writeRow (ys:=ys.take (hi-lo)) (lo:=lo) hct (by rw[hty];omega) (by rw[hty];omega) g2 (fun y hy=>k2 y (List.mem_of_mem_take hy)) (by rw[hty];exact n1) n3 g1;rw[hty]at q4;have hone:∀u∈news,u.oneCell'=true:=fun u hu=>by obtain⟨k,hk⟩:=List.getElem?_of_mem hu;obtain⟨x,c,hx,hc,hru⟩:=n4 k u hk;exact y3s ((hall' x (List.mem_of_mem_take hx)).2.2.2 c hc) hru
     refine⟨.int .i64 ((min (hi-lo) ys.length:Nat):Int),_,X,?_,⟨[],by simp⟩,q3,q4,RVe_d (.v _ rfl)⟩;have:=qjv (P:=E.P) (w:=w) (u:=u) (ty:=o.type) ht hi1 (g:=b) (o:=lo*sz2) (n1:=hi-lo) (c1:=c') (n2:=ys.length) (c2:=c2) q1 ⟨b2,o2,none⟩ news (by rw[n1,hi2,Nat.min_comm]) (fun j u hu=>by rw[q39];exact n2 j u hu) hone q2;simp only[builtin,List.map_toArray,List.map_cons,List.map_nil,e1,f1,Nat.zero_add];rw[Sem.run_bind,this];simp[goInt,Nat.min_comm]
   .cases hp
  .cases hp
 simp_all
end Go.Ab

namespace Go.Ab
variable {e t u : TypeId} {x y : Operand} {args : Array Operand} {ts : Array TypeId} {q : Bool} {v : AV}
variable {E : Env0} {X : Cx} {s s1 : St} {a : Act} {w : World}
theorem Rel.less(h:Rel E X s a w){s':St}(hlen:s'.heap.length=s.heap.length)(henv:∀t,get s'.env t=get s.env t\/get s'.env t=.undef)(hheap:∀o j,q0i s'.heap o j=q0i s.heap o j\/q0i s'.heap o j=.undef)(hcs:∀(o:Nat)cs,s.heap[o]?=some cs->∃cs',s'.heap[o]?=some cs'/\cs'.length=cs.length):Rel E X s' a w:=by
 have hct:∀p,(content s' p).isOwn=true->content s' p=content s p:=by intro p hp;cases p with|slot t=>rcases henv t with e|e;exact e;(simp only[content]at hp;rw[e]at hp;cases hp)|cell o j=>rcases hheap o j with e|e;exact e;(simp only[content]at hp;rw[e]at hp;cases hp)
 refine⟨fun t=>?_,fun t ht=>?_,by rw[hlen];exact h.mu,fun o cs' ho=>?_,h.gdom,h.amb,h.oamb,h.glob,h.defers⟩
 .rcases henv t with e|e;·rw[e];have ht:=h.env t;generalize get s.env t=c at ht;cases c with|loc p=>exact⟨fun o off e=>by rw[hlen];exact ht.1 o off e,fun ho=>ht.2 (by grind)⟩|elt p i off=>exact⟨fun o off e=>by rw[hlen];exact ht.1 o off e,fun xs l ho=>ht.2 xs l (by rw[<-hct p (by rw[ho];rfl)];omega)⟩|seg p i off=>exact⟨fun o off e=>by rw[hlen];exact ht.1 o off e,fun xs l ho=>ht.2 xs l (by rw[<-hct p (by rw[ho];rfl)];omega)⟩|_=>exact ht
  .rw[e];trivial
 .obtain⟨v,hv,hne⟩:=ht;rcases henv t with e|e;·exact h.bound t ⟨v,by rw[<-e];exact hv,hne⟩
  simp_all
 .have hlt:o<s.heap.length:=by rw[<-hlen];exact(List.getElem?_eq_some_iff.1 ho).1
  obtain⟨cs2,h1,h2⟩:=hcs o s.heap[o] (by simp[hlt]);rw[ho]at h1;cases h1;refine(h.heap o s.heap[o] (by simp[hlt])).less h2 (fun j c hj=>?_);have hjl:j<s.heap[o].length:=by rw[<-h2];exact(List.getElem?_eq_some_iff.1 hj).1
  have e1:q0i s'.heap o j=c:=by simp[q0i,ho,hj]
  have e2:q0i s.heap o j=s.heap[o][j]:=by simp[q0i,hlt,hjl]
  grind
theorem Rel.undefPlace(h:Rel E X s a w)(p:Place):Rel E X (setPlace s p .undef) a w:=by cases p with|slot t=>refine h.less rfl (fun u=>?_) (fun o j=>.inl rfl) (fun o cs ho=>⟨cs,ho,rfl⟩);simp only[setPlace,q1i];grind|cell o off=>
  refine h.less (by simp only[setPlace,q0z];split<;>simp) (fun u=>?_) (fun o' j=>?_) (fun o' cs ho=>?_);·simp only[setPlace,q3n];cases(get s.env u).placed<;>simp
  .simp only[setPlace,q0i,q44];grind
  .simp only[setPlace,q44];grind
theorem Rel.delAll:∀(l:List Nat){s:St},Rel E X s a w->Rel E X (s.del l) a w|[],_,h=>h|t::r,s,h=>Rel.delAll r (s:={s with env:=putE s.env t .undef}) (h.undefPlace (.slot t))
theorem Rel.del(h:Rel E X s a w)(l:List Nat):Rel E X (s.del l) a w:=Rel.delAll l h
theorem Rel.moveOut(h:Rel E X s a w){p:Place}{xs:List D}{l:Bool}(hc:content s p=.own xs l):∃X1 val,cval X a w p=some val/\X1.mu=X.mu/\Ext X w X1 w/\Rel E X1 (setPlace s p .undef) a w/\OwnOk w X1 (.res 0) xs l val:=by
 obtain⟨val,hv,hown⟩:=h.place hc (by simp) rfl (by simp) (by simp);let φ:Loc->Option Loc:=fun l=>if l=locOf p then some (.res 0)else some l;have hR:=h.undefPlace p;have hct:content (setPlace s p .undef) p=.undef:=by cases p with|slot t=>simp[content,setPlace,q1i]|cell o off=>simp only[content,setPlace,q0i,q44,if_true];grind
 refine⟨X.remap φ,val,hv,rfl,Ext.remap X w φ,hR.bg (Ext.remap X w φ) rfl (fun l' hl h1 h2 b k hx=>⟨?_,rfl⟩) (fun b l' k hx=>?_),OwnOk.ext (Ext.remap X w φ) (fun b k hx=>⟨by rw[Cx.remap_some hx];grind,rfl⟩) hown⟩
 .rw[Cx.remap_some hx];have:l'≠locOf p:=by rintro rfl;cases p with|slot t=>exact h1 t 0 rfl hct|cell o off=>exact h2 o off rfl hct
  grind
 .simp only[Cx.remap]at hx;split at hx;·rename_i l0 k0 h0;exact⟨h.gdom b l0 k0 h0,h.oamb b l0 k0 h0⟩
  simp_all
theorem qup(h:Rel E X s a w)(o:Oper)(ho:o.op=.call {callee:=.builtin .append,args:=args,argTypes:=ts})(ha:args.toList=[x,y])(hts:ts.toList=[t,u])(htu:t=u)(hp:q1v E q t x y s=some (v,s1)):Sound E X a w ((execOp a.eval o).run E.P w) v (s1.del (tmpOf x)):=by
 subst htu;obtain rfl:args=#[x,y]:=by grind
 obtain rfl:ts=#[t,t]:=by grind
 obtain⟨cs,hcs⟩:=q16 (P:=E.P) ho a w;have run:∀{v' w1},(Builtin.append_ #[t,t] o.type #[a.eval x,a.eval y]).run E.P w=.ok v' w1->(execOp a.eval o).run E.P w=.ok (.value v') w1:=by intro v' w1 hr;rw[hcs];simp[builtin,hr]
 unfold q1v at hp;cases hy:plainC E s y with|none=>simp_all|some dy=>cases dy with
  |list ys=>cases hte:q1s E.P t with|none=>simp_all|some e=>cases hb:q8e E.P e with|none=>simp_all|some b=>
     simp only[hy,hte,hb]at hp;split at hp;·rename_i hcond;obtain⟨hb0,hb1,hzo,hey⟩:=hcond;have hry:=q74 h hy;generalize hx:ev E s x=c at hp;cases c with
      |own xs l=>
       simp only at hp;split at hp;·rename_i hc2;simp only[sI,pI]at hp;obtain⟨rfl,rfl⟩:=hp;obtain⟨X1,hmu,hE,hR,hrv,_⟩:=h.take (x:=x) (v:=.own xs l) (by rw[hx];rfl) 0;have hown:OwnOk w X1 (.res 0) xs l (a.eval x):=hrv;obtain⟨v',w1,X2,hrun,hmu2,hE2,hR2,hO,_⟩:=qab (ty:=o.type) hR hte hb hb1 hzo hc2.2 hey hc2.1 hown (hE.rep hry);exact⟨v',w1,X2,run hrun,⟨[],by simp[hmu2,hmu]⟩,Ext.trans h.gdom hE hE2,hR2,hO⟩
       .cases hp|loc p=>simp only at hp;cases hct:content s p with
       |own xs l=>
        simp only[hct]at hp;split at hp;·rename_i hc2;simp only[sI,pI]at hp;obtain⟨rfl,rfl⟩:=hp;obtain⟨X1,val,hv,hmu,hE,hR,hown⟩:=h.moveOut hct;obtain⟨L,hrx⟩:=h.operand x;rw[hx]at hrx;have hev:=hrx.2 (by rw[hct];rfl);rw[hv]at hev;cases hev;obtain⟨v',w1,X2,hrun,hmu2,hE2,hR2,hO,_⟩:=qab (ty:=o.type) (hR.del (tmpOf x)) hte hb hb1 hzo hc2.2.2 hey hc2.2.1 hown (hE.rep hry);exact⟨v',w1,X2,run hrun,⟨[],by simp[hmu2,hmu]⟩,Ext.trans h.gdom hE hE2,hR2,hO⟩
        .cases hp|_=>simp[hct]at hp
      |_=>simp at hp
     simp_all
  |_=>simp_all
theorem qs9(h:Rel E X s a w)(o:Oper)(ho:o.op=.call {callee:=.builtin .append,args:=args,argTypes:=ts})(ha:args.toList=[x,y])(hts:ts.toList=[t,u])(htu:t=u)(hp:q1v E q t x y s=some (v,s1)){val:Value}{w2:World}(hw2:(execOp a.eval o).run E.P w=.ok (.value val) w2){ob bb:Nat}(hbb:X.mu[ob]?=some (.blk bb)):w2.heap[bb]?=w.heap[bb]?:=by
 subst htu;obtain rfl:args=#[x,y]:=by grind
 obtain rfl:ts=#[t,t]:=by grind
 obtain⟨cs,hcs⟩:=q16 (P:=E.P) ho a w;have run:∀{v' w1},(Builtin.append_ #[t,t] o.type #[a.eval x,a.eval y]).run E.P w=.ok v' w1->(execOp a.eval o).run E.P w=.ok (.value v') w1:=by intro v' w1 hr;rw[hcs];simp[builtin,hr]
 have fin:∀{v':Value}{w1:World}{X1:Cx}{s':St},(execOp a.eval o).run E.P w=.ok (.value v') w1->Rel E X1 s' a w->X1.mu=X.mu->(∀k,k<w.heap.size->(∀n,X1.G k≠some (.res 0,n))->w1.heap[k]?=w.heap[k]?)->w2.heap[bb]?=w.heap[bb]?:=by
  intro v' w1 X1 s' hr hR hmu hk;rw[hr]at hw2;cases hw2;have hb1:X1.mu[ob]?=some (.blk bb):=by rw[hmu];exact hbb
  have hlt:ob<s'.heap.length:=by rw[<-hR.mu];exact(List.getElem?_eq_some_iff.1 hb1).1
  obtain⟨cur,e,hg,hw,_⟩:=(hR.heap ob s'.heap[ob] (by simp[hlt])).real hb1;grind
 unfold q1v at hp;cases hy:plainC E s y with|none=>simp_all|some dy=>cases dy with
  |list ys=>cases hte:q1s E.P t with|none=>simp_all|some e=>cases hb:q8e E.P e with|none=>simp_all|some b=>
     simp only[hy,hte,hb]at hp;split at hp;·rename_i hcond;obtain⟨hb0,hb1,hzo,hey⟩:=hcond;have hry:=q74 h hy;generalize hx:ev E s x=c at hp;cases c with
      |own xs l=>
       simp only at hp;split at hp;·rename_i hc2;simp only[sI,pI]at hp;obtain⟨rfl,rfl⟩:=hp;obtain⟨X1,hmu,hE,hR,hrv,_⟩:=h.take (x:=x) (v:=.own xs l) (by rw[hx];rfl) 0;have hown:OwnOk w X1 (.res 0) xs l (a.eval x):=hrv;obtain⟨v',w1,X2,hrun,hmu2,hE2,hR2,hO,hkeep⟩:=qab (ty:=o.type) hR hte hb hb1 hzo hc2.2 hey hc2.1 hown (hE.rep hry);exact fin (run hrun) hR hmu hkeep
       .cases hp|loc p=>simp only at hp;cases hct:content s p with
       |own xs l=>
        simp only[hct]at hp;split at hp;·rename_i hc2;simp only[sI,pI]at hp;obtain⟨rfl,rfl⟩:=hp;obtain⟨X1,val,hv,hmu,hE,hR,hown⟩:=h.moveOut hct;obtain⟨L,hrx⟩:=h.operand x;rw[hx]at hrx;have hev:=hrx.2 (by rw[hct];rfl);rw[hv]at hev;cases hev;obtain⟨v',w1,X2,hrun,hmu2,hE2,hR2,hO,hkeep⟩:=qab (ty:=o.type) (hR.del (tmpOf x)) hte hb hb1 hzo hc2.2.2 hey hc2.2.1 hown (hE.rep hry);exact fin (run hrun) hR hmu hkeep
        .cases hp|_=>simp[hct]at hp
      |_=>simp at hp
     simp_all
  |_=>simp_all
theorem qw1(h:Rel E X s a w)(o:Oper)(ho:o.op=.alloc e){z:Value}(hz:q3d E.P e=some z):Sound E X a w ((execOp a.eval o).run E.P w) (.ptr s.heap.length 0) {s with heap:=s.heap++[(q0j z).cells]}:=by
 obtain⟨h1,h2⟩:=qx3 w X .res z;obtain⟨X',hmu,hE,hR⟩:=h.newVar (q0j z).cells z.cells e h1 h2;refine⟨.pointer (some ⟨w.heap.size,0,none⟩),_,X',?_,⟨_,hmu⟩,hE,hR,w.heap.size,?_,rfl⟩;·simp[execOp,ho,Instr.alloc,qe3 hz,newVar,newRow]
 .rw[hmu,List.getElem?_append_right (by rw[h.mu];omega),h.mu];simp
theorem y3j(h:Rel E X s a w)(o:Oper)(ho:o.op=.box e x)(hm:q3f (ev E s x)=some v):Sound E X a w ((execOp a.eval o).run E.P w) (.ptr s.heap.length 0) (St.del {s with heap:=s.heap++[v.cells]} (tmpOf x)):=by
 obtain⟨X1,hmu,hE,hR,hrv,_⟩:=h.take hm 0;have hvm:q3f v=some v:=by generalize ev E s x=c at hm;cases c<;>simp[q3f]at hm<;>subst hm<;>rfl
 simp only[Nat.zero_add]at hrv;obtain⟨h1,h2⟩:=qnw hvm hrv;obtain⟨X',hmu',hE',hR'⟩:=hR.newVar v.cells (a.eval x).cells e h1 h2;refine⟨.pointer (some ⟨w.heap.size,0,none⟩),_,X',?_,⟨[.blk w.heap.size],by simp_all⟩,Ext.trans h.gdom hE hE',?_,w.heap.size,?_,rfl⟩;·simp[execOp,ho,Instr.box,newVar,newRow]
 .have:St.del {s with heap:=s.heap++[v.cells]} (tmpOf x)={(s.del (tmpOf x))with heap:=(s.del (tmpOf x)).heap++[v.cells]}:=by cases x<;>rfl
  simp_all
 .rw[hmu',hmu,List.getElem?_append_right (by rw[h.mu];omega),h.mu];simp
end Go.Ab

namespace Go.Ab
variable {cs : List AV} {t : TypeId} {z : Array Value}
variable {E : Env0} {X : Cx} {s s1 : St} {a : Act} {w : World}
theorem qxv(off:Nat):∀(l:List Value)(k:Nat)(cells:Array Value),off+k+l.length<=cells.size->((l.zipIdx k).foldl (fun(cs:Array Value)(x:Value×Nat)=>cs.setIfInBounds (off+x.2) x.1) cells).size=cells.size/\∀p:Nat,((l.zipIdx k).foldl (fun(cs:Array Value)(x:Value×Nat)=>cs.setIfInBounds (off+x.2) x.1) cells)[p]?=if off+k<=p/\p<off+k+l.length then l[p-(off+k)]? else cells[p]?|[],k,cells,_=>⟨rfl,fun p=>by simp;omega⟩|v::l,k,cells,h=>by simp only[List.length_cons]at h;obtain⟨h1,h2⟩:=qxv off l (k+1) (cells.setIfInBounds (off+k) v) (by rw[Array.size_setIfInBounds];omega);simp only[List.zipIdx_cons,List.foldl_cons];grind
theorem qt6(off:Nat)(vs cells:Array Value)(h:off+vs.size<=cells.size):(vs.zipIdx.foldl (fun(cs:Array Value)(x:Value×Nat)=>cs.setIfInBounds (off+x.2) x.1) cells).size=cells.size/\∀p:Nat,(vs.zipIdx.foldl (fun(cs:Array Value)(x:Value×Nat)=>cs.setIfInBounds (off+x.2) x.1) cells)[p]?=if off<=p/\p<off+vs.size then vs[p-off]? else cells[p]?:=by have:=qxv off vs.toList 0 cells (by simpa using h);rw[<-Array.foldl_toList];simp_all
theorem qu1(place:Nat->Option (Nat×Nat))(cells:Array Value)(i:Nat)(v:Value)(rest:List (Nat×Value)){off size:Nat}(hp:place i=some (off,size))(hv:v.cells.size=size)(hle:off+size<=cells.size):Instr.fill place cells ((i,v)::rest)=Instr.fill place (v.cells.zipIdx.foldl (fun(cs:Array Value)(x:Value×Nat)=>cs.setIfInBounds (off+x.2) x.1) cells) rest:=by
 have h1:¬(v.cells.size≠size||decide (off+v.cells.size>cells.size))=true:=by simp only[Bool.or_eq_true,dT'];omega
 simp only[Instr.fill,hp];grind
theorem qpb(s:St):∀l1 l2:List Nat,s.del (l1++l2)=(s.del l1).del l2|[],l2=>rfl|t::l1,l2=>by simp only[List.cons_append,St.del];exact qpb _ l1 l2
theorem qp4(place:Nat->Option (Nat×Nat)):∀(parts:List (Nat×Operand))(s:St)(X:Cx)(cA cA':List AV)(c:Array Value)(ps:List (Nat×AV)),Rel E X s a w->c.size=cA.length->(∀(j:Nat)y,cA[j]?=some y->RVl w X (.res j) y (c.getD j undef))->q5e E s parts=some ps->fillA place cA ps=some cA'->∃X' c',Instr.fill place c (parts.map fun p=>(p.1,a.eval p.2))=some c'/\X'.mu=X.mu/\Ext X w X' w/\Rel E X' (s.del (parts.flatMap fun p=>tmpOf p.2)) a w/\c'.size=cA'.length/\∀(j:Nat)y,cA'[j]?=some y->RVl w X' (.res j) y (c'.getD j undef)|[],s,X,cA,cA',c,ps,h,hc,hr,hp,hf=>by simp only[q5e,sI]at hp;subst hp;simp only[fillA,sI]at hf;subst hf;exact⟨X,c,rfl,rfl,Ext.refl X w,h,hc,hr⟩|(i,x)::parts,s,X,cA,cA',c,ps,h,hc,hr,hp,hf=>by simp only[q5e]at hp;cases hm:q3f (ev E s x)with|none=>simp_all|some v=>cases hp2:q5e E (s.del (tmpOf x)) parts with|none=>simp_all|some ps2=>simp only[hm,hp2,sI]at hp;subst hp;simp only[fillA]at hf;cases hpl:place i with|none=>simp_all|some os=>
     obtain⟨off,size⟩:=os;simp only[hpl]at hf;split at hf
     .rename_i hcond;obtain⟨hlen,hle⟩:=hcond;obtain⟨X1,hmu1,hE1,hR1,hrv,hk,_⟩:=h.take hm off;have hvm:q3f v=some v:=by generalize ev E s x=c at hm;cases c<;>simp[q3f]at hm<;>subst hm<;>rfl
      obtain⟨hsz,hcells⟩:=qnw hvm hrv;obtain⟨g1,g2⟩:=qt6 off (a.eval x).cells c (by omega);have hres:∀j,q4t X w X1 w (.res j):=fun j=>hk _ (fun t j' _=>by simp);obtain⟨X2,c',hfill,hmu2,hE2,hR2,hc',hr'⟩:=qp4 place parts (s.del (tmpOf x)) X1 _ cA' ((a.eval x).cells.zipIdx.foldl (fun(cs:Array Value)(x:Value×Nat)=>cs.setIfInBounds (off+x.2) x.1) c) ps2 hR1 (by rw[g1];simp;omega) (fun j y hj=>by
        have hjs:(cA.take off++v.cells++cA.drop (off+size))[j]?=some y:=hj;rw[<-hlen,qed cA v.cells off j (by omega)]at hjs;have hval:∀z:Array Value,z.getD j undef=(z[j]?).getD undef:=fun z=>by simp[Array.getD_eq_getD_getElem?]
        rw[hval,g2 j];by_cases e:off<=j/\j<off+v.cells.length;·rw[if_pos e]at hjs;rw[if_pos (by omega)];have:=hcells (j-off) y hjs;rw[show off+(j-off)=j by omega]at this;simpa[Array.getD_eq_getD_getElem?]using this
        .rw[if_neg e]at hjs;rw[if_neg (by omega),<-hval];exact RVl.ext hE1 (fun o b e'=>by rw[hmu1];exact e') (fun b k hx=>hres j b k hx) (hr j y hjs)) hp2 hf;refine⟨X2,c',?_,hmu2.trans hmu1,Ext.trans h.gdom hE1 hE2,by simp only[List.flatMap_cons];rw[qpb];exact hR2,hc',hr'⟩;rw[List.map_cons,qu1 place c i (a.eval x) _ hpl (by omega) (by omega)];exact hfill
     simp_all
theorem qyl:∀{cs:List AV}{ds:List D},allD cs=some ds->cs=ds.map .d|[],ds,h=>by simp[allD]at h;simp_all|c::r,ds,h=>by cases c<;>simp[allD]at h;obtain⟨ds',h1,rfl⟩:=h;rw[qyl h1];rfl
theorem qv8{c:Array Value}(hc:c.size=cs.length)(hr:∀(j:Nat)y,cs[j]?=some y->RVl w X (.res j) y (c.getD j undef)):RVs w X .res (qfb cs) (.agg c):=by
 unfold qfb;split;·rename_i ds hd;have:=qyl hd;subst this;exact Rep.agg ds c (by simp_all) (fun j d hj=>hr j (.d d) (by grind))
 .exact⟨c,rfl,hc,hr⟩
theorem qtf(h:Rel E X s a w)(o:Oper){parts:Array (Nat×Operand)}(ho:o.op=.build t parts){ps:List (Nat×AV)}(hz:q3d E.P t=some (.agg z))(hp:q5e E s parts.toList=some ps)(hok:qh1 E.P t=true)(hf:fillA (fieldPlace E.P t) (z.toList.map q08) ps=some cs):∃val,(∀w',(execOp a.eval o).run E.P w'=.ok (.value val) w')/\∃X',(∃more,X'.mu=X.mu++more)/\Ext X w X' w/\Rel E X' (s.del (parts.toList.flatMap fun p=>tmpOf p.2)) a w/\RVe X' (s.del (parts.toList.flatMap fun p=>tmpOf p.2)) a w .res (qfb cs) val:=by
 obtain⟨X',c',hfill,hmu,hE,hR,hc,hr⟩:=qp4 (fieldPlace E.P t) parts.toList s X (z.toList.map q08) cs z ps h (by simp) (fun j y hj=>by
  simp only[List.getElem?_map,Array.getElem?_toList,Option.map_eq_some_iff]at hj;obtain⟨u,hu,rfl⟩:=hj;have:z.getD j undef=u:=by simp_all
  rw[this];exact q6o w X _ u) hp hf;refine⟨.agg c',fun w'=>?_,X',⟨[],by grind⟩,hE,hR,q1d (qv8 hc hr)⟩;have hparts:(parts.map fun(i,x)=>(i,a.eval x)).toList=parts.toList.map fun p=>(p.1,a.eval p.2):=by simp
 obtain⟨it,hit,hiz⟩:=qr3 hz;have hbuilt:E.P.built t (parts.map fun(i,x)=>(i,a.eval x)).toList=some c':=by
  unfold qh1 at hok;unfold Program.built;rw[hparts];split at hok
  .rename_i fs hu;have hall:∀f∈fs.toList,(q0f E.P f.type).isSome=true:=fun f hf=>Array.all_eq_true'.1 hok f (by simpa using hf);have hmap:fs.toList.mapM (fun f=>(E.P.info? f.type).map fun i=>(f.offset,i.size))=some (fs.toList.map fun f=>(f.offset,(q0f E.P f.type).getD 0)):=by refine mapM_some_of_forall _ (fun f hf=>?_);obtain⟨n,hn⟩:=Option.isSome_iff_exists.1 (hall f hf);obtain⟨i,hi,hs⟩:=qln hn;simp[hi,hn,hs]
   have hpl:(fun i=>(fs.toList.map fun f=>(f.offset,(q0f E.P f.type).getD 0)).toArray[i]?)=fieldPlace E.P t:=by funext i;simp only[fieldPlace,hu];cases hfi:fs[i]? with|none=>simp[hfi]|some f=>obtain⟨n,hn⟩:=Option.isSome_iff_exists.1 (hall f (by simpa using Array.mem_of_getElem? hfi));simp[hfi,hn]
   simp only[hit,hu,hiz,hmap];rw[hpl];exact hfill
  .rename_i m e hu;obtain⟨n,hn⟩:=Option.isSome_iff_exists.1 hok;obtain⟨i,hi,hs⟩:=qln hn;have hpl:(fun j=>some (j*i.size,i.size))=fieldPlace E.P t:=by funext j;simp only[fieldPlace,hu,hn,hs,mS]
   simp only[hit,hu,hiz,hi];rw[hpl];exact hfill
  simp_all
 simp only[execOp,ho,Sem.run_bind,run_build w' t _ c' hbuilt,Result.andThen_ok];rfl
theorem qvy(h:Rel E X s a w)(o:Oper){parts:Array (Nat×Operand)}(ho:o.op=.build t parts){ps:List (Nat×AV)}(hz:q3d E.P t=some (.agg z))(hp:q5e E s parts.toList=some ps)(hok:qh1 E.P t=true)(hf:fillA (fieldPlace E.P t) (z.toList.map q08) ps=some cs):Sound E X a w ((execOp a.eval o).run E.P w) (qfb cs) (s.del (parts.toList.flatMap fun p=>tmpOf p.2)):=by obtain⟨val,hr,X',h1,h2,h3,h4⟩:=qtf h o ho hz hp hok hf;exact⟨val,w,X',hr w,h1,h2,h3,h4⟩
theorem qyc{P:Program}{I:Nat->Nat->Prop}{w:World}(sz:Nat)(hz:0<sz):∀(vs:List Value)(k:Nat)(cells:Array Value),(∀v∈vs,v.cells.size=sz)->(k+vs.length)*sz<=cells.size->∃out,Instr.fill (fun i=>some (i*sz,sz)) cells ((vs.zipIdx k).map fun x=>(x.2,x.1))=some out/\out.size=cells.size/\(∀p:Nat,p<k*sz->out[p]?=cells[p]?)/\∀(i:Nat)v,vs[i]?=some v->∀j:Nat,j<sz->out[(k+i)*sz+j]?=v.cells[j]?
 |[],k,cells,_,_=>⟨cells,rfl,rfl,fun _ _=>rfl,fun i v hv=>by grind⟩|v::vs,k,cells,hs,hle=>by
  have hv:v.cells.size=sz:=hs v (by simp);simp only[List.length_cons]at hle;have hb:(k+1)*sz<=(k+(vs.length+1))*sz:=Nat.mul_le_mul_right _ (by omega);have e1:(k+1)*sz=k*sz+sz:=by grind
  obtain⟨g1,g2⟩:=qt6 (k*sz) v.cells cells (by omega);obtain⟨out,h1,h2,h3,h4⟩:=qyc (P:=P) (I:=I) (w:=w) sz hz vs (k+1) (v.cells.zipIdx.foldl (fun(cs:Array Value)(x:Value×Nat)=>cs.setIfInBounds (k*sz+x.2) x.1) cells) (fun u hu=>hs u (by grind)) (by grind);refine⟨out,?_,h2.trans g1,fun p hp=>?_,fun i u hu j hj=>?_⟩;·rw[List.zipIdx_cons,List.map_cons,qu1 _ cells k v _ rfl hv (by omega)];omega
  .grind
  .cases i with|zero=>simp_all|succ i=>grind
theorem qml{E:Env0}:∀(l:List (Nat×Operand))(k:Nat)(f:Operand->Value),q5j k l=true->l.map (fun p=>(p.1,f p.2))=((l.map fun p=>f p.2).zipIdx k).map fun x=>(x.2,x.1)|[],k,f,_=>rfl|(i,x)::l,k,f,h=>by simp only[q5j,aT,beq_iff_eq]at h;obtain⟨rfl,h2⟩:=h;simp only[List.map_cons,List.zipIdx_cons];rw[qml (E:=E) l (i+1) f h2]
theorem qkj(h:Rel E X s a w)(o:Oper){e:TypeId}{n:Nat}{parts:Array (Nat×Operand)}(ho:o.op=.buildSlice t n parts){xs:List D}(he:q1s E.P t=some e)(hp:plainsC E s (parts.toList.map (·.2))=some xs)(hord:q5j 0 parts.toList=true)(hlen:xs.length=n)(hn:n<=65536)(hok:q3z E.P e xs=true)(hzo:qjl E.P e=true)(hsm:∀sz,q0f E.P e=some sz->sz<=256):Sound E X a w ((execOp a.eval o).run E.P w) (.own xs false) s:=by
 obtain⟨g,sz,hg,hs,hall⟩:=q41 hok;obtain⟨h1,h2⟩:=qmj h hp;obtain⟨z,hz,hzs⟩:∃z,q3d E.P e=some z/\z.cells.size=sz:=by unfold qjl at hzo;grind
 have hsz:=hsm sz hs;have h24:¬(n*sz>2^24):=by have:=Nat.mul_le_mul hn hsz;omega
 have hparts:(parts.map fun(i,x)=>(i,a.eval x)).toList=((parts.toList.map fun p=>a.eval p.2).zipIdx 0).map fun x=>(x.2,x.1):=by rw[<-qml (E:=E) parts.toList 0 a.eval hord];simp
 have hpl:parts.toList.length=n:=by simp_all
 by_cases hn0:n=0
 .subst hn0;have hx0:xs=[]:=List.eq_nil_of_length_eq_zero hlen;have hp0:parts=#[]:=by apply Array.ext';exact List.eq_nil_of_length_eq_zero hpl
  subst hx0 hp0;have hE:Ext X w X (w.alloc (.cells #[] e)):=by refine⟨rfl,by simp,rfl,rfl,rfl,fun b hb hx=>⟨hx,heap_alloc_old w _ b hb⟩,fun b l k hx=>⟨fun l' k' h'=>(by rw[hx]at h';simp only[sI,pI]at h';omega),fun o _=>cell?_of_heap (heap_alloc_old w _ b (h.gdom b l k hx)) o⟩⟩
  refine⟨.slice (some ⟨w.heap.size,0,none⟩) 0 0,w.alloc (.cells #[] e),X,?_,⟨[],by simp⟩,hE,h.bg hE rfl (fun l _ _ _ b k hx=>⟨hx,heap_alloc_old w _ b (h.gdom b l k hx)⟩) (fun b l k hx=>⟨by have:=h.gdom b l k hx;simp;omega,h.oamb b l k hx⟩),.inl ⟨rfl,_,rfl⟩⟩;simp[execOp,ho,Instr.buildSlice,run_underlying (qgt he),q1q hs,Instr.fill,newRow];grind
 .have hne:xs≠[]:=fun e=>hn0 (by simp_all);obtain⟨x0,hx0⟩:=List.exists_mem_of_ne_nil _ hne;have hz0:=(hall x0 hx0).2.2.1;have hval:∀(i:Nat)x,xs[i]?=some x->∃v,(parts.toList.map fun p=>a.eval p.2)[i]?=some v/\Rep w X.imm x v:=fun i x hx=>by grind
  have hcs:∀v∈(parts.toList.map fun p=>a.eval p.2),v.cells.size=sz:=by
   intro v hv;obtain⟨i,hi,rfl⟩:=List.mem_iff_getElem.1 hv;have hil:i<xs.length:=by simp at hi;simp at hpl;omega
   obtain⟨v',hv',hr⟩:=hval i xs[i] (by simp[hil]);rw[List.getElem?_eq_getElem hi]at hv';cases hv';rw[(qgd hr).1];simp_all
  let zs:Array Value:=(Array.range (n*sz)).map (z.cells[·%z.cells.size]!);obtain⟨out,hf,hos,_,hoi⟩:=qyc (P:=E.P) (I:=X.imm) (w:=w) sz hz0 (parts.toList.map fun p=>a.eval p.2) 0 zs hcs (by grind);have hosz:out.size=n*sz:=by grind
  obtain⟨X',hmu,hE,hR,hO⟩:=h.newOwn (e:=e) (lt:=false) (xs:=xs) (cap:=n) (sz:=sz) (cur:=out) (fun x hx=>(hall x hx).1) hz0 hne hosz (by omega) (by unfold maxLen;omega) (fun i x hx j c hj=>by
   obtain⟨v,hv,hr⟩:=hval i x hx;have hxl:=(hall x (List.mem_of_getElem? hx)).1;have hjl:j<sz:=by grind
   obtain⟨r1,r2⟩:=qgd hr;have:=hoi i v hv j hjl;rw[Nat.zero_add]at this;have hjv:j<v.cells.size:=by omega
   refine⟨v.cells[j],by grind,?_⟩;have:=r2 j c hj;simpa[Array.getD,hjv]using this);refine⟨_,_,X',?_,⟨[],by grind⟩,hE,hR,hO⟩;have hnz:¬(n*sz=0):=by intro e0;rcases Nat.mul_eq_zero.1 e0 with e1|e1<;>omega
  simp only[execOp,ho,Instr.buildSlice,Sem.run_bind,run_underlying (qgt he),Result.andThen_ok,q1q hs];rw[if_neg h24,if_neg hnz];simp only[Sem.run_bind,qe3 hz,Result.andThen_ok,Sem.run_pure];rw[hparts,hf];simp[newRow,hlen]
end Go.Ab

namespace Go.Ab
variable {v : AV} {o : Oper} {x : Operand} {p : Place} {i off : Nat}
variable {E : Env0} {X : Cx} {s s1 : St} {a : Act} {w : World}
theorem q27{α:Type}{x:Option α}{f:α->AV}{s s1:St}(h:x.map (fun y=>(f y,s))=some (v,s1)):∃y,x=some y/\f y=v/\s=s1:=by simp_all
theorem Rel.assignElt(h:Rel E X s a w)(ho:o.op=.assign x\/o.op=.move x)(hc:ev E s x=.elt p i off):Sound E X a w ((execOp a.eval o).run E.P w) (.elt p i off) (s.del (tmpOf x)):=by
 have hr:(execOp a.eval o).run E.P w=.ok (.value (a.eval x)) w:=by rcases ho with ho|ho<;>simp[execOp,ho]
 cases x with|const c=>
  exfalso;simp only[ev,q0j]at hc;split at hc;·grind
  .unfold q08 at hc;split at hc<;>cases hc|func f=>cases hc|global g=>simp only[ev]at hc;split at hc<;>cases hc|tmp t=>
  have ht:=h.env t;have hct:get s.env t=.elt p i off:=hc;rw[hct]at ht;have hst:s.del (tmpOf (.tmp t))={s with env:=putE s.env t .undef}:=rfl;have hget:∀u,get (putE s.env t .undef) u=if t=u then .undef else get s.env u:=by intro u;rw[q1i];simp[hct,show AV.undef.isOwn=false from rfl,show(AV.elt p i off).isOwn=false from rfl]
  have hR:Rel E X (s.del (tmpOf (.tmp t))) a w:=by refine h.less (s':=s.del (tmpOf (.tmp t))) rfl (fun u=>?_) (fun o j=>.inl rfl) (fun o cs hcs=>⟨cs,hcs,rfl⟩);grind
  refine⟨a.eval (.tmp t),w,X,hr,⟨[],by simp⟩,Ext.refl X w,hR,?_⟩;refine⟨ht.1,fun xs l hown=>?_⟩;have:content s p=.own xs l:=by cases p with
   |slot u=>
    have h1:get (putE s.env t .undef) u=.own xs l:=hown;rw[hget]at h1;split at h1;·grind
    .exact h1|cell o off=>exact hown
  exact ht.2 xs l this
theorem Rel.assignSeg(h:Rel E X s a w)(ho:o.op=.assign x\/o.op=.move x)(hc:ev E s x=.seg p i off):Sound E X a w ((execOp a.eval o).run E.P w) (.seg p i off) (s.del (tmpOf x)):=by
 have hr:(execOp a.eval o).run E.P w=.ok (.value (a.eval x)) w:=by rcases ho with ho|ho<;>simp[execOp,ho]
 cases x with|const c=>
  exfalso;simp only[ev,q0j]at hc;split at hc;·grind
  .unfold q08 at hc;split at hc<;>cases hc|func f=>cases hc|global g=>simp only[ev]at hc;split at hc<;>cases hc|tmp t=>
  have ht:=h.env t;have hct:get s.env t=.seg p i off:=hc;rw[hct]at ht;have hst:s.del (tmpOf (.tmp t))={s with env:=putE s.env t .undef}:=rfl;have hget:∀u,get (putE s.env t .undef) u=if t=u then .undef else get s.env u:=by intro u;rw[q1i];simp[hct,show AV.undef.isOwn=false from rfl,show(AV.seg p i off).isOwn=false from rfl]
  have hR:Rel E X (s.del (tmpOf (.tmp t))) a w:=by refine h.less (s':=s.del (tmpOf (.tmp t))) rfl (fun u=>?_) (fun o j=>.inl rfl) (fun o cs hcs=>⟨cs,hcs,rfl⟩);grind
  refine⟨a.eval (.tmp t),w,X,hr,⟨[],by simp⟩,Ext.refl X w,hR,?_⟩;refine⟨ht.1,fun xs l hown=>?_⟩;have:content s p=.own xs l:=by cases p with
   |slot u=>
    have h1:get (putE s.env t .undef) u=.own xs l:=hown;rw[hget]at h1;split at h1;·grind
    .exact h1|cell o off=>exact hown
  exact ht.2 xs l this
theorem q7t(h:Rel E X s a w)(o:Oper)(ho:o.op=.assign x\/o.op=.move x)(hp:(qpi (ev E s x)).map (fun v=>(v,s))=some (v,s1)):Sound E X a w ((execOp a.eval o).run E.P w) v (s1.del (tmpOf x)):=by
 simp only[Option.map_eq_some_iff,pI]at hp;obtain⟨v',hm,rfl,rfl⟩:=hp;by_cases hel:∃p i off,ev E s x=.elt p i off;·obtain⟨p,i,off,he⟩:=hel;rw[he]at hm;cases hm;exact h.assignElt ho he
 by_cases hsl:∃p i off,ev E s x=.seg p i off;·obtain⟨p,i,off,he⟩:=hsl;rw[he]at hm;cases hm;exact h.assignSeg ho he
 have hm:q3f (ev E s x)=some v':=by cases hc:ev E s x with|elt p i off=>simp_all|seg p i off=>simp_all|_=>rw[hc]at hm;exact hm
 obtain⟨X1,hmu,hE,hR,hrv,_⟩:=h.take hm 0;simp only[Nat.zero_add]at hrv;exact⟨a.eval x,w,X1,by rcases ho with ho|ho<;>simp[execOp,ho],⟨[],by grind⟩,hE,hR,q1d hrv⟩
theorem qcs(h:Rel E X s a w)(o:Oper){fl:Flag}{q:Bool}(hp:q01 E fl q o.op s=some (v,s1)):Sound E X a w ((execOp a.eval o).run E.P w) v (s1.del (q5x o.op)):=by cases hop:o.op with
 |move x=>rw[hop]at hp;cases x with|tmp t=>exact y0p h o hop hp|const c=>exact q7t h o (.inr hop) hp|global g=>exact q7t h o (.inr hop) hp|func f=>exact q7t h o (.inr hop) hp
 |assign x=>
  rw[hop]at hp;by_cases hu:ev E s x=.undef;·simp only[q01,hu,moveU,mS,sI,pI]at hp;obtain⟨rfl,rfl⟩:=hp;exact Sound.same (val:=a.eval x) (h.del _) (by simp[execOp,hop]) trivial
  .have hm:moveU (ev E s x)=qpi (ev E s x):=by cases hc:ev E s x<;>first|rfl|exact absurd hc hu
   simp only[q01,hm]at hp;exact q7t h o (.inl hop) hp|pick c x y=>
  rw[hop]at hp;simp only[q01]at hp;split at hp;·rename_i t hc;obtain⟨d,h1,rfl,rfl⟩:=q27 hp;exact qzv h o hop hc h1
  simp_all|alloc e=>rw[hop]at hp;simp only[q01,Option.map_eq_some_iff,pI]at hp;obtain⟨z,hz,rfl,rfl⟩:=hp;exact qw1 h o hop hz|box e x=>
  rw[hop]at hp;simp only[q01]at hp;split at hp
  .rename_i v' n hm hn;split at hp;·simp only[sI,pI]at hp;obtain⟨rfl,rfl⟩:=hp;exact y3j h o hop hm
   .cases hp
  simp_all|build t parts=>
  rw[hop]at hp;simp only[q01]at hp;split at hp
  .rename_i z ps hz hps;split at hp;·rename_i hok;obtain⟨cs,h1,rfl,rfl⟩:=q27 hp;exact qvy h o hop hz hps hok h1
   .cases hp
  simp_all|buildSlice t n parts=>
  rw[hop]at hp;simp only[q01]at hp;split at hp
  .rename_i e xs he hxs;split at hp;·rename_i hc;simp only[sI,pI]at hp;obtain⟨rfl,rfl⟩:=hp;obtain⟨c1,c2,c3,c4,c5,c6⟩:=hc;exact qkj h o hop he hxs c1 c2 c3 c4 c5 (fun sz hs=>by unfold qw8 at c6;rw[hs]at c6;simpa using c6)
   .cases hp
  simp_all|load t x=>rw[hop]at hp;exact qzm h o hop hp|nilCheck x=>rw[hop]at hp;exact qol h o hop hp|binOp op t x y u=>
  rw[hop]at hp;simp only[q01]at hp;split at hp;·rename_i p r hx hy;obtain⟨z,h1,rfl,rfl⟩:=q27 hp;exact qwv h o hop hx hy h1
  .rename_i p r hx hy;obtain⟨z,h1,rfl,rfl⟩:=q27 hp;exact qwb h o hop hx hy h1
  simp_all|unOp op t x=>
  rw[hop]at hp;simp only[q01]at hp;split at hp;·rename_i p hx;obtain⟨z,h1,rfl,rfl⟩:=q27 hp;exact y0f h o hop hx h1
  simp_all|convert src dst x=>
  rw[hop]at hp;simp only[q01]at hp;split at hp;·obtain⟨y,h1,rfl,rfl⟩:=q27 hp;exact qf1 h o hop h1
  split at hp;·rename_i k0 k kk n h1 h2 hx;simp only[sI,pI]at hp;obtain⟨rfl,rfl⟩:=hp;exact qj9 h o hop h1 h2 hx
  .rename_i b h1 h2 hx;simp only[sI,pI]at hp;obtain⟨rfl,rfl⟩:=hp;exact qdq h o hop h1 h2 hx
  simp_all|makeSlice t l c=>
  rw[hop]at hp;simp only[q01]at hp;split at hp
  .rename_i e n m he hl hc;split at hp
   .rename_i x b hz hb;split at hp;·rename_i hcond;simp only[sI,pI]at hp;obtain⟨rfl,rfl⟩:=hp;obtain⟨rfl,c2,c3,c4,c5⟩:=hcond;simp only[Option.bind_eq_some_iff]at hz;obtain⟨z,hz1,hz2⟩:=hz;exact qnz h o hop he hl hc hz1 hz2 hb c2 c3 c4 c5
    .cases hp
   .cases hp
  simp_all|slice t x lo hi mx=>rw[hop]at hp;obtain⟨y,h1,rfl,rfl⟩:=q27 hp;exact qvf h o hop h1|fieldAddr t x i=>
  rw[hop]at hp;simp only[q01]at hp;split at hp
  .rename_i off u hf;split at hp;·rename_i n hn;exact qni h o hop hf hn hp
   .cases hp
  simp_all|field t x i=>
  rw[hop]at hp;simp only[q01]at hp;split at hp;·rename_i cs off u hx hf;obtain⟨y,h1,rfl,rfl⟩:=q27 hp;exact qwh h o hop hx hf h1
  simp_all|indexAddr t x i=>
  rw[hop]at hp;simp only[q01]at hp;split at hp;·rename_i n hi;obtain⟨y,h1,rfl,rfl⟩:=q27 hp;exact qnn h o hop hi h1
  simp_all|index t x i=>
  rw[hop]at hp;simp only[q01]at hp;split at hp;·rename_i n y hi hx;obtain⟨z,h1,rfl,rfl⟩:=q27 hp;exact qw9 h o hop hi hx h1
  simp_all|extract x i=>rw[hop]at hp;cases x with
  |tmp t=>
   simp only[q01]at hp;split at hp
   .rename_i vs hx;split at hp;·rename_i y hi;simp only[sI,pI]at hp;obtain⟨rfl,rfl⟩:=hp;exact qai h o hop hx hi (.inl ⟨y,rfl⟩)
    .rename_i ob oo hi;simp only[sI,pI]at hp;obtain⟨rfl,rfl⟩:=hp;exact qai h o hop hx hi (.inr (.inl ⟨ob,oo,rfl⟩))
    .rename_i hi;simp only[sI,pI]at hp;obtain⟨rfl,rfl⟩:=hp;exact qai h o hop hx hi (.inr (.inr rfl))
    .cases hp
   simp_all|const c=>simp[q01]at hp|global g=>simp[q01]at hp|func f=>simp[q01]at hp
 |makeFunc fn first caps=>rw[hop]at hp;cases fn with
  |func f=>
   simp only[q01]at hp;split at hp;·rename_i hf;obtain⟨ps,h1,rfl,rfl⟩:=q27 hp;exact qot h o hop hf h1
   simp_all|_=>simp[q01]at hp
 |call c=>rw[hop]at hp;obtain⟨callee,args,ts⟩:=c;cases callee with
  |builtin b=>
   simp only[q01,q2m]at hp;split at hp;·rename_i x t ha ht;obtain⟨n,h1,rfl,rfl⟩:=q27 hp;exact y21 h o hop ha ht h1
   .rename_i x y ha;split at hp;·rename_i k m k' n hx hy;simp only[sI,pI]at hp;obtain⟨rfl,rfl⟩:=hp;exact y1y h o hop ha hx hy
    .cases hp
   .rename_i x y ha;split at hp;·rename_i k m k' n hx hy;simp only[sI,pI]at hp;obtain⟨rfl,rfl⟩:=hp;exact y4w h o hop ha hx hy
    .cases hp
   .rename_i x y t u ha ht;split at hp;·rename_i htu;have:=qup h o hop ha ht htu hp;simpa only[q5x,ha]using this
    .cases hp
   .rename_i x y t u ha ht;split at hp;·cases hp
    .exact y0z h o hop ha ht hp
   simp_all|value f=>simp[q01]at hp|invoke r m=>simp[q01]at hp
 |_=>rw[hop]at hp;simp[q01]at hp
end Go.Ab

namespace Go.Ab
variable {m : Nat}
variable {E : Env0} {X : Cx} {s s1 : St} {a : Act} {w : World}
def φtrim(m:Nat):Loc->Option Loc|.blk o=>if o<m then some (.blk o)else none|.cell o j=>if o<m then some (.cell o j)else none|l=>some l
def Cx.trim(X:Cx)(m:Nat):Cx:={X.remap (φtrim m)with mu:=X.mu.take m}
theorem q1o(X:Cx)(w:World)(m:Nat):Ext X w (X.trim m) w:=⟨rfl,Nat.le_refl _,rfl,rfl,rfl,(Ext.remap X w (φtrim m)).free,(Ext.remap X w (φtrim m)).own⟩
theorem RVl.trim{l:Loc}{c:AV}{v:Value}(hp:∀o∈q05 c,o<m)(hl:φtrim m l=some l)(h:RVl w X l c v):RVl w (X.trim m) l c v:=by
 have hm:∀o∈q05 c,∀b,X.mu[o]?=some b->(X.trim m).mu[o]?=some b:=by intro o ho b hb;show(X.mu.take m)[o]?=some b;simp_all
 cases c with|own xs lt=>exact OwnOk.ext (q1o X w m) (fun b k e=>⟨by show(X.remap (φtrim m)).G b=_;rw[Cx.remap_some e,hl];rfl,rfl⟩) h|undef=>trivial|skipped=>exact h|d x=>exact(q1o X w m).rep h|ptr o off=>obtain⟨b,hb,hv⟩:=h;exact⟨b,hm o (by simp[q05]) _ hb,hv⟩|ref o=>exact⟨hm o (by simp[q05]) _ h.1,h.2⟩|view cs=>obtain⟨b,off,hv,hh⟩:=h;exact⟨b,off,hv,fun j c hj=>let⟨u,h1,h2,h3⟩:=hh j c hj;⟨u,((q1o X w m).point h1 h2).1,((q1o X w m).point h1 h2).2,(q1o X w m).rep h3⟩⟩|fn f caps=>obtain⟨vs,hv,hn,hh⟩:=h;exact⟨vs,hv,hn,fun j o a hj=>let⟨b,hb,hu⟩:=hh j o a hj;⟨b,hm o (by simp only[q05];grind) _ hb,hu⟩⟩|loc p=>exact h|elt p i off=>exact h|seg p i off=>exact h|agg cs=>exact h|tup cs=>exact h
theorem qba(m:Nat)(e:Env)(u:Nat):get (dropE m e) u=if(q42 (get e u)).all (fun o=>decide (o<m))then get e u else .undef:=by induction e with|nil=>rfl|cons p r ih=>
  obtain⟨k,x⟩:=p;simp only[dropE];by_cases hx:(q42 x).all (fun o=>decide (o<m))=true;·rw[if_pos hx];simp only[get];grind
  .rw[if_neg hx,q6q];simp only[get];grind
theorem Rel.trimAt(h:Rel E X s a w)(hm:m<=s.heap.length)(hok:q2r m s.heap=true):Rel E (X.trim m) {env:=dropE m s.env,heap:=s.heap.take m} a w:=by
 have hp:∀o cs,o<m->s.heap[o]?=some cs->∀c∈cs,∀p∈q05 c,p<m:=by intro o cs ho hcs c hc p hpp;simp only[q2r,List.all_eq_true,dT']at hok;exact hok cs (List.mem_of_getElem? (by rw[List.getElem?_take,if_pos ho];omega)) c hc p hpp
 have hcell:∀o off,o<m->q0i (s.heap.take m) o off=q0i s.heap o off:=by intro o off ho;simp only[q0i,List.getElem?_take,if_pos ho]
 have hmu:∀o,o<m->(X.mu.take m)[o]?=X.mu[o]?:=by simp_all
 refine⟨fun t=>?_,fun t ht=>?_,?_,fun o cs hcs=>?_,fun b l k e=>?_,h.amb,fun b l k e=>?_,fun g cs hg j c hj=>?_,h.defers⟩
 .show RVe _ _ a w _ (get (dropE m s.env) t) _;rw[qba];split;·rename_i hd;simp only[List.all_eq_true,dT']at hd;have ht:=h.env t;generalize get s.env t=v at ht hd;have leaf:∀(L:Nat->Loc)(c:AV)(v:Value),(∀j,L j=.slot t j)->(∀o∈q05 c,o<m)->∀j,RVl w X (L j) c v->RVl w (X.trim m) (L j) c v:=fun L c v hL hc j hr=>RVl.trim hc (by rw[hL];rfl) hr;cases v with
   |loc p=>
    refine⟨fun o off e=>?_,fun ho=>?_⟩;·subst e;have:o<m:=hd o (by simp[q42]);simp_all
    .cases p with
     |slot u=>
      refine ht.2 ?_;have ho':(get (dropE m s.env) u).isOwn=true:=ho;rw[qba]at ho';split at ho';·exact ho'
      .cases ho'|cell o off=>have hlt:o<m:=hd o (by simp[q42]);have ho':(q0i (s.heap.take m) o off).isOwn=true:=ho;rw[hcell o off hlt]at ho';have:=ht.2 ho';simp only[cval]at this⊢;rw[show(X.trim m).mu[o]?=X.mu[o]? from hmu o hlt];omega
   |elt p i off=>
    refine⟨fun o off e=>?_,fun xs l hc=>?_⟩;·subst e;have:o<m:=hd o (by simp[q42]);simp_all
    .cases p with
     |slot u=>
      refine ht.2 xs l ?_;have hc':get (dropE m s.env) u=.own xs l:=hc;rw[qba]at hc';split at hc';·exact hc'
      simp_all|cell o off'=>have hlt:o<m:=hd o (by simp[q42]);have hc':q0i (s.heap.take m) o off'=.own xs l:=hc;rw[hcell o off' hlt]at hc';obtain⟨b,o0,n,cap,sz,h1,h2,h3⟩:=ht.2 xs l hc';refine⟨b,o0,n,cap,sz,?_,h2,h3⟩;simp only[cval]at h1⊢;rw[show(X.trim m).mu[o]?=X.mu[o]? from hmu o hlt];omega
   |seg p i off=>
    refine⟨fun o off e=>?_,fun xs l hc=>?_⟩;·subst e;have:o<m:=hd o (by simp[q42]);simp_all
    .cases p with
     |slot u=>
      refine ht.2 xs l ?_;have hc':get (dropE m s.env) u=.own xs l:=hc;rw[qba]at hc';split at hc';·exact hc'
      simp_all|cell o off'=>have hlt:o<m:=hd o (by simp[q42]);have hc':q0i (s.heap.take m) o off'=.own xs l:=hc;rw[hcell o off' hlt]at hc';obtain⟨ad,c',h0,h00,hh⟩:=ht.2 xs l hc';refine⟨ad,c',h0,h00,fun hlt2=>?_⟩;obtain⟨b,o0,n,cap,sz,h1,h2,h3⟩:=hh hlt2;refine⟨b,o0,n,cap,sz,?_,h2,h3⟩;simp only[cval]at h1⊢;rw[show(X.trim m).mu[o]?=X.mu[o]? from hmu o hlt];omega
   |agg cs=>obtain⟨vs,hv,hn,hh⟩:=ht;exact⟨vs,hv,hn,fun j c hj=>leaf (.slot t) c _ (fun _=>rfl) (fun o ho=>hd o (List.mem_flatMap.2 ⟨c,List.mem_of_getElem? hj,ho⟩)) j (hh j c hj)⟩|tup cs=>obtain⟨vs,hv,hn,hh⟩:=ht;exact⟨vs,hv,hn,fun j c hj=>⟨(hh j c hj).1,leaf (.slot t) c _ (fun _=>rfl) (fun o ho=>hd o (List.mem_flatMap.2 ⟨c,List.mem_of_getElem? hj,ho⟩)) j (hh j c hj).2⟩⟩|undef=>trivial|skipped=>exact ht|d x=>exact leaf (.slot t) (.d x) _ (fun _=>rfl) (fun o ho=>hd o ho) 0 ht|own xs l=>exact leaf (.slot t) (.own xs l) _ (fun _=>rfl) (fun o ho=>hd o ho) 0 ht|ptr o off=>exact leaf (.slot t) (.ptr o off) _ (fun _=>rfl) (fun o ho=>hd o ho) 0 ht|view cs=>exact leaf (.slot t) (.view cs) _ (fun _=>rfl) (fun o ho=>hd o ho) 0 ht|ref o=>exact leaf (.slot t) (.ref o) _ (fun _=>rfl) (fun o ho=>hd o ho) 0 ht|fn f cs=>exact leaf (.slot t) (.fn f cs) _ (fun _=>rfl) (fun o ho=>hd o ho) 0 ht
  .trivial
 .obtain⟨v,hv,hne⟩:=ht;refine h.bound t ⟨_,rfl,fun e=>hne ?_⟩;rw[<-hv];show get (dropE m s.env) t=_;rw[qba,e];split<;>rfl
 .show(X.mu.take m).length=(s.heap.take m).length;simp[h.mu]
 .have hlt:o<m:=by grind
  have hcs':(s.heap.take m)[o]?=some cs:=hcs;rw[List.getElem?_take,if_pos hlt]at hcs';rcases h.heap o cs hcs' with⟨b,cur,e,g1,g2,g3,g4,g5⟩|⟨v,c,g1,rfl,g2⟩
  .refine .inl ⟨b,cur,e,?_,?_,g3,g4,fun j c hj=>⟨RVl.trim (fun p hpp=>hp o cs hlt hcs' c (List.mem_of_getElem? hj) p hpp) (by simp[φtrim,hlt]) (g5 j c hj).1,trivial⟩⟩;·show(X.mu.take m)[o]?=some (.blk b);simp_all
   .show(X.remap (φtrim m)).G b=_;rw[Cx.remap_some g2];simp[φtrim,hlt]
  .exact .inr ⟨v,c,(hmu o hlt).trans g1,rfl,RVl.trim (fun p hpp=>hp o [c] hlt hcs' c (by simp) p hpp) (by simp[φtrim,hlt]) g2⟩
 .have e':(X.remap (φtrim m)).G b=some (l,k):=e;simp only[Cx.remap]at e';split at e';·rename_i l0 k0 h0;exact h.gdom b l0 k0 h0
  simp_all
 .have e':(X.remap (φtrim m)).G b=some (l,k):=e;simp only[Cx.remap]at e';split at e';·rename_i l0 k0 h0;exact h.oamb b l0 k0 h0
  simp_all
 .obtain⟨u,h1,h2,h3⟩:=h.glob g cs hg j c hj;exact⟨u,((q1o X w m).point h1 h2).1,((q1o X w m).point h1 h2).2,(q1o X w m).rep h3⟩
end Go.Ab

namespace Go.Ab
variable {xs : List D} {v : Value} {o t : Nat} {x : Operand} {vs : List AV} {args : Array Value} {X' : Cx}
variable {E : Env0} {X : Cx} {s s1 : St} {a : Act} {w : World}
theorem Rel.newHead(h:Rel E X s a w)(c:AV)(v:Value)(hc:RVl w X (.res 0) c v):∃X',X'.mu=X.mu++[.head v]/\Ext X w X' w/\Rel E X' {s with heap:=s.heap++[[c]]} a w:=by
 let φ:Loc->Option Loc:=fun|.res j=>some (.cell s.heap.length j)|.cell o j=>if o=s.heap.length then none else some (.cell o j)|.blk o=>if o=s.heap.length then none else some (.blk o)|l=>some l;let X':Cx:={X.remap φ with mu:=X.mu++[.head v]};have hE:Ext X w X' w:=⟨rfl,Nat.le_refl _,rfl,rfl,rfl,(Ext.remap X w φ).free,(Ext.remap X w φ).own⟩;have hm:∀(o:Nat)b,X.mu[o]?=some b->X'.mu[o]?=some b:=fun o b hb=>by grind
 have hk:∀l,φ l=some l->q4t X w X' w l:=by intro l hl b k hx;refine⟨?_,rfl⟩;show(X.remap φ).G b=_;rw[Cx.remap_some hx,hl];rfl
 have hold:∀o,o<s.heap.length->∀j,φ (.cell o j)=some (.cell o j)/\φ (.blk o)=some (.blk o):=fun o ho j=>by grind
 have hcv:∀p u,(content s p).isOwn=true->cval X a w p=some u->cval X' a w p=some u:=by intro p u hp hu;cases p with|slot t=>exact hu|cell o off=>obtain⟨cs',h1,h2⟩:=q14 (c:=content s (.cell o off)) rfl (fun e=>by rw[e]at hp;cases hp);exact(h.heap o cs' h1).cval (a:=a) (a':=a) hm (hk (.blk o) (hold o (List.getElem?_eq_some_iff.1 h1).1 0).2) hu
 have hct:∀p,(∀o off,p=.cell o off->o<s.heap.length)->content {s with heap:=s.heap++[[c]]} p=content s p:=by intro p hp;cases p with|slot t=>rfl|cell o off=>simp only[content,q0i];grind
 refine⟨X',rfl,hE,⟨fun t=>?_,h.bound,by show(X.mu++[Home.head v]).length=(s.heap++[[c]]).length;simp[h.mu],fun o cs' hcs'=>?_,fun b l k hx=>?_,h.amb,fun b l k hx=>?_,fun g cs' hg j c hj=>?_,h.defers⟩⟩
 .have ht:=h.env t;have hmore:∀(q:Place),inR s q->inR {s with heap:=s.heap++[[c]]} q:=fun q hq o off e=>by have:=hq o off e;grind
  show RVe X' {s with heap:=s.heap++[[c]]} a w _ (get s.env t) _;generalize get s.env t=u at ht;cases u with|loc p=>refine⟨hmore p ht.1,fun ho=>?_⟩;rw[hct p ht.1]at ho;exact hcv p _ ho (ht.2 ho)|elt p i off=>refine⟨hmore p ht.1,fun xs l ho=>?_⟩;rw[hct p ht.1]at ho;obtain⟨b,o0,n,cap,sz,g1,g2,g3⟩:=ht.2 xs l ho;exact⟨b,o0,n,cap,sz,hcv p _ (by rw[ho];rfl) g1,g2,g3⟩|seg p i off=>refine⟨hmore p ht.1,fun xs l ho=>?_⟩;rw[hct p ht.1]at ho;obtain⟨ad,c',g0,g00,gg⟩:=ht.2 xs l ho;refine⟨ad,c',g0,g00,fun hlt=>?_⟩;obtain⟨b,o0,n,cap,sz,g1,g2,g3⟩:=gg hlt;exact⟨b,o0,n,cap,sz,hcv p _ (by rw[ho];rfl) g1,g2,g3⟩|_=>exact q1d (RVs.ext hE hm (fun j b k hx=>hk (.slot t j) rfl b k hx) (q38 rfl ht))
 .by_cases ho:o<s.heap.length;·rw[List.getElem?_append_left ho]at hcs';exact(h.heap o cs' hcs').ext hE hm (hk (.blk o) (hold o ho 0).2) (fun j c _ _=>hk (.cell o j) (hold o ho j).1)
  .have hlt:=(List.getElem?_eq_some_iff.1 hcs').1;have:o=s.heap.length:=by grind
   subst this;simp at hcs';subst hcs';refine .inr ⟨v,c,?_,rfl,RVl.ext hE hm (fun b k hx=>⟨?_,rfl⟩) hc⟩;·show(X.mu++[Home.head v])[s.heap.length]?=_;rw[<-h.mu];simp
   .show(X.remap φ).G b=_;rw[Cx.remap_some hx];rfl
 .have hx':(X.remap φ).G b=some (l,k):=hx;simp only[Cx.remap]at hx';split at hx';·rename_i l0 k0 h0;exact h.gdom b l0 k0 h0
  simp_all
 .have hx':(X.remap φ).G b=some (l,k):=hx;simp only[Cx.remap]at hx';split at hx';·rename_i l0 k0 h0;exact h.oamb b l0 k0 h0
  simp_all
 .obtain⟨u,h1,h2,h3⟩:=h.glob g cs' hg j c hj;exact⟨u,(hE.point h1 h2).1,(hE.point h1 h2).2,hE.rep h3⟩
theorem qh3{X:Cx}{w:World}{l:Loc}{lt:Bool}(h:OwnOk w X l xs lt v):∃a n c,v=.slice a n c:=by
 rcases h with⟨_,a,e⟩|⟨_,_,a,n,e⟩|⟨b,cap,cur,e1,sz,e,_⟩;·exact⟨_,_,_,e⟩
 .exact⟨_,_,_,e⟩
 simp_all
theorem Rel.share(h:Rel E X s a w)(hc:get s.env t=.own xs false):∃X',X'.mu=X.mu++[.head (a.tmps.getD t undef)]/\Ext X w X' w/\Rel E X' {env:=putE s.env t .undef,heap:=s.heap++[[.own xs false]]} a w/\t<a.tmps.size/\∃a0 n c,a.tmps.getD t undef=.slice a0 n c:=by
 obtain⟨X1,val,hv,hmu,hE,hR,hO⟩:=h.moveOut (p:=.slot t) (show content s (.slot t)=.own xs false from hc);have hb:=h.bound t ⟨_,hc,by simp⟩;have hval:a.tmps.getD t undef=val:=by simp only[cval]at hv;simp_all
 obtain⟨X2,hmu2,hE2,hR2⟩:=hR.newHead (.own xs false) val hO;exact⟨X2,by simp_all,Ext.trans h.gdom hE hE2,hR2,hb,by rw[hval];exact qh3 hO⟩
theorem y5m{a:Act}(ht:t<a.tmps.size)(hv:a.tmps.getD t undef=v):a.put (some t) v=a:=by cases a with|mk tmps defers=>
  simp only[Act.put];congr 1;have ht':t<tmps.size:=ht;have hv':tmps[t]=v:=by simpa[Array.getD_eq_getD_getElem?,ht']using hv
  grind
theorem Rel.unshare(h:Rel E X s a w){d:Nat}(hlen:s.heap.length=o+1)(hcs:s.heap[o]?=some [.own xs false])(htr:q2r o s.heap=true)(hmu:X.mu[o]?=some (.head v))(hd:d<a.tmps.size)(hv:a.tmps.getD d undef=v):∃X',X'.mu=X.mu.take o/\Ext X w X' w/\Rel E X' {env:=putE (dropE o (q0n s.env)) d (.own xs false),heap:=s.heap.take o} a w:=by
 have hct:content s (.cell o 0)=.own xs false:=by simp[content,q0i,hcs]
 obtain⟨X1,val,hval,hmu1,hE1,hR1,hO1⟩:=h.moveOut hct;have hvv:val=v:=by simp only[cval,hmu]at hval;simpa using hval.symm
 subst hvv;have htake:(setPlace s (.cell o 0) .undef).heap.take o=s.heap.take o:=by simp only[setPlace,q0z,hcs];rw[List.take_set_of_le (Nat.le_refl o)]
 have hlen1:(setPlace s (.cell o 0) .undef).heap.length=s.heap.length:=by simp only[setPlace,q0z];split<;>simp
 have htr1:q2r o (setPlace s (.cell o 0) .undef).heap=true:=by unfold q2r at htr⊢;rw[htake];exact htr
 have hR2:=hR1.trimAt (m:=o) (by omega) htr1;have hO2:OwnOk w (X1.trim o) (.res 0) xs false val:=OwnOk.ext (q1o X1 w o) (fun b k e=>⟨by show(X1.remap (φtrim o)).G b=_;rw[Cx.remap_some e];rfl,rfl⟩) hO1;have hR2':Rel E (X1.trim o) {env:=dropE o (q0n s.env),heap:=s.heap.take o} a w:=by rw[<-htake];exact hR2
 obtain⟨X3,hmu3,hE3,hR3⟩:=hR2'.put hd (v:=.own xs false) (val:=val) hO2;rw[y5m hd hv]at hR3;refine⟨X3,?_,Ext.trans h.gdom hE1 (Ext.trans hR1.gdom (q1o X1 w o) hE3),hR3⟩;rw[hmu3];show X1.mu.take o=_;grind
theorem Rel.gone(h:Rel E X s a w)(hlen:s.heap.length=o+1)(htr:q2r o s.heap=true):∃X',X'.mu=X.mu.take o/\Ext X w X' w/\Rel E X' {env:=dropE o s.env,heap:=s.heap.take o} a w:=⟨X.trim o,rfl,q1o X w o,h.trimAt (m:=o) (by omega) htr⟩
def ArgRel(w:World)(X:Cx)(vs:List AV)(args:Array Value):Prop:=args.size=vs.length/\∀(i:Nat)v,vs[i]?=some v->v.isOwn=false/\RVl w X (.res i) v (args.getD i undef)
theorem qte(h:Rel E X s a w){v:AV}(h1:argOf E s x=some v):v.isOwn=false/\∀l,RVl w X l v (a.eval x):=by
 obtain⟨L,hr⟩:=h.operand x;unfold argOf at h1;split at h1;·rename_i ob oo hx;rw[hx]at hr;cases h1;exact⟨rfl,fun _=>hr⟩
 .rename_i f cs hx;rw[hx]at hr;cases h1;exact⟨rfl,fun _=>hr⟩
 .rename_i cs hx;rw[hx]at hr;cases h1;exact⟨rfl,fun _=>hr⟩
 .rename_i o hx;rw[hx]at hr;cases h1;exact⟨rfl,fun _=>hr⟩
 .simp only[Option.map_eq_some_iff]at h1;obtain⟨d,hd,rfl⟩:=h1;exact⟨rfl,fun _=>q74 h hd⟩
theorem qn2{v:AV}{u:Value}(h0:v.isOwn=false)(h1:RVl w X (.res 0) v u)(h2:ArgRel w X vs args):ArgRel w X (v::vs) (u::args.toList).toArray:=by obtain⟨h3,h4⟩:=h2;refine⟨by simp_all,fun i c hi=>?_⟩;cases i with|zero=>simp_all|succ i=>
  obtain⟨h5,h6⟩:=h4 i c (by simp_all);have e0:((u::args.toList).toArray).getD (i+1) undef=args.getD i undef:=by simp
  rw[e0];exact⟨h5,RVl.copy h5 h6⟩
theorem qq1(h:Rel E X s a w):∀{l:List Operand}{vs:List AV},qaw E s l=some vs->ArgRel w X vs (l.map a.eval).toArray|[],vs,hp=>by simp[qaw]at hp;subst hp;exact⟨rfl,fun i v hi=>by grind⟩|x::l,vs,hp=>by simp only[qaw]at hp;cases h1:argOf E s x with|none=>simp_all|some v=>cases h2:qaw E s l with|none=>simp_all|some vs'=>simp only[h1,h2,sI]at hp;subst hp;obtain⟨g1,g2⟩:=qte h h1;exact qn2 g1 (g2 _) (qq1 h h2)
def Lent(X:Cx)(a:Act)(l:List (Nat×Nat)):Prop:=∀p∈l,X.mu[p.1]?=some (.head (a.tmps.getD p.2 undef))/\p.2<a.tmps.size
theorem ArgRel.ext(hE:Ext X w X' w)(hm:∀(o:Nat)b,X.mu[o]?=some b->X'.mu[o]?=some b)(h:ArgRel w X vs args):ArgRel w X' vs args:=⟨h.1,fun i v hi=>by obtain⟨g1,g2⟩:=h.2 i v hi;refine⟨g1,?_⟩;cases v with|own xs l=>cases g1|_=>first|exact g2|exact hE.rep g2|exact⟨hm _ _ g2.1,g2.2⟩|(obtain⟨b,hb,hv⟩:=g2;exact⟨b,hm _ _ hb,hv⟩)|(obtain⟨vs,hv,hn,hh⟩:=g2;exact⟨vs,hv,hn,fun j o a hj=>let⟨b,hb,hu⟩:=hh j o a hj;⟨b,hm _ _ hb,hu⟩⟩)|(obtain⟨b,off,hv,hh⟩:=g2;exact⟨b,off,hv,fun j c hj=>let⟨u,h1,h2,h3⟩:=hh j c hj;⟨u,(hE.point h1 h2).1,(hE.point h1 h2).2,hE.rep h3⟩⟩)⟩
theorem Lent.mono{l:List (Nat×Nat)}(hm:∀(o:Nat)b,X.mu[o]?=some b->X'.mu[o]?=some b)(h:Lent X a l):Lent X' a l:=fun p hp=>⟨hm _ _ (h p hp).1,(h p hp).2⟩
theorem qtq(hs:shareOf s x=some (t,xs))(h:Rel E X s a w):get s.env t=.own xs false/\a.eval x=a.tmps.getD t undef:=by
 unfold shareOf at hs;split at hs
 .rename_i u;split at hs;·rename_i ys hg;cases hs;exact⟨hg,rfl⟩
  .rename_i t' hg;split at hs;·rename_i ys hg';cases hs;refine⟨hg',?_⟩;have hu:=h.env u;rw[hg]at hu;have:=hu.2 (by show(get s.env t).isOwn=true;rw[hg'];rfl);show a.tmps.getD u undef=_;simp only[cval]at this;simp[Array.getD_eq_getD_getElem?,this]
   .cases hs
  .cases hs
 simp_all
theorem Rel.shareCell(h:Rel E X s a w){u off:Nat}(hs:Ab.shareCell s x=some (u,o,off,xs)):∃X',X'.mu=X.mu++[.head (a.tmps.getD u undef)]/\Ext X w X' w/\Rel E X' {env:=q0n s.env,heap:=q0z s.heap o off .undef++[[.own xs false]]} a w/\u<a.tmps.size/\(∃a0 n c,a.tmps.getD u undef=.slice a0 n c)/\a.eval x=a.tmps.getD u undef:=by
 unfold Ab.shareCell at hs;split at hs
 .rename_i u';split at hs
  .rename_i o' off' hg;split at hs;·rename_i xs' hc;cases hs;have hct:content s (.cell o off)=.own xs false:=hc;obtain⟨X1,val,hv,hmu,hE,hR,hO⟩:=h.moveOut hct;have hb:=h.bound u ⟨_,hg,by simp⟩;have hu:=h.env u;rw[hg]at hu;have h2:=hu.2 (by rw[hct];rfl);rw[hv]at h2;simp only[sI]at h2;obtain⟨X2,hmu2,hE2,hR2⟩:=hR.newHead (.own xs false) val hO;exact⟨X2,by rw[hmu2,hmu,h2],Ext.trans h.gdom hE hE2,hR2,hb,by rw[<-h2];exact qh3 hO,rfl⟩
   .cases hs
  .cases hs
 simp_all
theorem qc0:∀(l:List Operand){X:Cx}{s s1:St}{vs:List AV}{sh:List (Nat×Nat)},Rel E X s a w->q52 E s l=some (vs,s1,sh)->∃X1,(∃more,X1.mu=X.mu++more)/\Ext X w X1 w/\Rel E X1 s1 a w/\ArgRel w X1 vs (l.map a.eval).toArray/\Lent X1 a sh/\(∀p∈sh,s.heap.length<=p.1)|[],X,s,s1,vs,sh,h,hp=>by simp only[q52,sI,pI]at hp;obtain⟨rfl,rfl,rfl⟩:=hp;exact⟨X,⟨[],by simp⟩,Ext.refl X w,h,⟨rfl,fun i v hi=>by grind⟩,fun p hp=>(by grind),fun p hp=>(by grind)⟩|x::r,X,s,s1,vs,sh,h,hp=>by simp only[q52]at hp;cases h1:qh5 E s x with|none=>simp_all|some q=>obtain⟨v,s2,l0⟩:=q;simp only[h1]at hp;cases h2:q52 E s2 r with|none=>simp_all|some q2=>
    obtain⟨vs',s3,l'⟩:=q2;simp only[h2,sI,pI]at hp;obtain⟨rfl,rfl,rfl⟩:=hp;have one:∃X2,(∃more,X2.mu=X.mu++more)/\Ext X w X2 w/\Rel E X2 s2 a w/\v.isOwn=false/\RVl w X2 (.res 0) v (a.eval x)/\Lent X2 a l0/\(∀p∈l0,s.heap.length<=p.1)/\s.heap.length<=s2.heap.length:=by
     unfold qh5 at h1;split at h1
     .rename_i t xs hsh;simp only[sI,pI]at h1;obtain⟨rfl,rfl,rfl⟩:=h1;obtain⟨hg,hev⟩:=qtq hsh h;obtain⟨X2,hmu,hE,hR,hb,hsl⟩:=h.share hg;have hat:X2.mu[s.heap.length]?=some (.head (a.tmps.getD t undef)):=by rw[hmu,<-h.mu];simp
      refine⟨X2,⟨_,hmu⟩,hE,hR,rfl,?_,fun p hp=>?_,fun p hp=>?_,by simp⟩;·rw[hev];exact⟨hat,hsl⟩
      .rw[List.mem_singleton]at hp;subst hp;exact⟨hat,hb⟩
      .rw[List.mem_singleton]at hp;subst hp;exact Nat.le_refl _
     .split at h1
      .rename_i u o off xs hsh;simp only[sI,pI]at h1;obtain⟨rfl,rfl,rfl⟩:=h1;obtain⟨X2,hmu,hE,hR,hb,hsl,hev⟩:=h.shareCell hsh;have hat:X2.mu[s.heap.length]?=some (.head (a.tmps.getD u undef)):=by rw[hmu,<-h.mu];simp
       refine⟨X2,⟨_,hmu⟩,hE,hR,rfl,?_,fun p hp=>?_,fun p hp=>?_,by simp[q0z];split<;>simp⟩;·rw[hev];exact⟨hat,hsl⟩
       .rw[List.mem_singleton]at hp;subst hp;exact⟨hat,hb⟩
       .rw[List.mem_singleton]at hp;subst hp;exact Nat.le_refl _
      split at h1;·rename_i v' ha;simp only[sI,pI]at h1;obtain⟨rfl,rfl,rfl⟩:=h1;obtain⟨g1,g2⟩:=qte h ha;exact⟨X,⟨[],by simp⟩,Ext.refl X w,h,g1,g2 _,fun p hp=>(by cases hp),fun p hp=>(by cases hp),Nat.le_refl _⟩
      .cases h1
    obtain⟨X2,⟨m2,hm2⟩,hE2,hR2,hv1,hv2,hL2,hge2,hle2⟩:=one;obtain⟨X1,⟨m1,hm1⟩,hE1,hR1,hA1,hL1,hge1⟩:=qc0 r hR2 h2;have hm:∀(o:Nat)b,X2.mu[o]?=some b->X1.mu[o]?=some b:=fun o b hb=>by rw[hm1,List.getElem?_append_left (List.getElem?_eq_some_iff.1 hb).1];exact hb
    refine⟨X1,⟨m2++m1,by rw[hm1,hm2,List.append_assoc]⟩,Ext.trans h.gdom hE2 hE1,hR1,?_,fun p hp=>?_,fun p hp=>?_⟩;·have h0:ArgRel w X1 [v] #[a.eval x]:=ArgRel.ext hE1 hm ⟨rfl,fun i c hi=>by cases i with|zero=>simp at hi;subst hi;exact⟨hv1,by simpa[Array.getD]using hv2⟩|succ i=>simp at hi⟩;obtain⟨g1,g2⟩:=h0.2 0 v rfl;have:=qn2 g1 g2 hA1;simpa[Array.getD]using this
    .rcases List.mem_append.1 hp with hp|hp;·exact(hL2.mono hm) p hp
     .exact hL1 p hp
    grind
def LentB(X:Cx)(a:Act)(dst:Option Nat)(l:List (Nat×Nat)):Prop:=∀p∈l,∃v,X.mu[p.1]?=some (.head v)/\(dst≠some p.2->a.tmps.getD p.2 undef=v)/\p.2<a.tmps.size
theorem qkr{dst:Option Nat}(h:Rel E X s a w)(hp:q5k dst o t s=some s1)(hmu:X.mu[o]?=some (.head v))(hval:dst≠some t->a.tmps.getD t undef=v)(ht:t<a.tmps.size)(hd:∀d,dst=some d->d<a.tmps.size):∃X',X'.mu=X.mu.take o/\Ext X w X' w/\Rel E X' s1 a w:=by
 unfold q5k at hp;split at hp
 .rename_i xs d hcs hho;split at hp
  .rename_i hcond;cases hp;have hdv:d<a.tmps.size/\a.tmps.getD d undef=v:=by
    unfold qxt at hho;split at hho
    .rename_i d0;split at hho;·rename_i href;cases hho;refine⟨hd d rfl,?_⟩;have hu:=h.env d;generalize hg:get s.env d=c at hu href;cases c with|ref o'=>simp only[qx2,beq_iff_eq]at href;subst href;have:=hu.1;rw[hmu]at this;simp only[sI,Home.head.injEq]at this;exact this.symm|_=>cases href
     .split at hho;·cases hho
      .rename_i hne;cases hho;exact⟨ht,hval (by simpa using hne)⟩
    .cases hho;exact⟨ht,hval (by simp)⟩
   exact h.unshare hcond.1 hcs hcond.2 hmu hdv.1 hdv.2
  .cases hp
 .split at hp;·rename_i hcond;cases hp;exact h.gone hcond.1 hcond.2
  .cases hp
 simp_all
theorem qge{dst:Option Nat}(hd:∀d,dst=some d->d<a.tmps.size):∀(l:List (Nat×Nat)){X:Cx}{s s1:St}(m:Nat),Rel E X s a w->unshare dst l s=some s1->LentB X a dst l->m<=X.mu.length->(∀p∈l,m<=p.1)->∃X',(∃k,m<=k/\X'.mu=X.mu.take k)/\Ext X w X' w/\Rel E X' s1 a w|[],X,s,s1,m,h,hp,_,hmm,_=>by simp only[unshare,sI]at hp;subst hp;exact⟨X,⟨X.mu.length,hmm,by simp⟩,Ext.refl X w,h⟩|(o,t)::r,X,s,s1,m,h,hp,hL,hmm,hge=>by simp only[unshare]at hp;cases h1:unshare dst r s with|none=>simp_all|some s2=>
   simp only[h1]at hp;obtain⟨X2,⟨k,hk,hmu2⟩,hE2,hR2⟩:=qge hd r m h h1 (fun p hp=>hL p (by grind)) hmm (fun p hp=>hge p (by grind));have hlen:s2.heap.length=o+1:=by unfold q5k at hp;grind
   obtain⟨v,g1,g3,g2⟩:=hL (o,t) (by simp);have hmu':X2.mu[o]?=some (.head v):=by
    have hl:o<X2.mu.length:=by rw[hR2.mu,hlen];omega
    grind
   obtain⟨X3,hmu3,hE3,hR3⟩:=qkr hR2 hp hmu' g3 g2 hd;refine⟨X3,⟨min o k,by have:=hge (o,t) (by simp);omega,by grind⟩,Ext.trans h.gdom hE2 hE3,hR3⟩
end Go.Ab

namespace Go.Ab
variable {l l' : Loc} {c : AV} {v : Value} {o' o0 : Nat}
variable {E : Env0} {X : Cx} {s s1 : St} {a : Act} {w : World}
theorem RVl.ren{w w':World}{X X':Cx}{ρ:Nat->Nat}(hrep:∀d u,Rep w X.imm d u->Rep w' X'.imm d u)(hpt:∀b o u,w.cell? ⟨b,o,none⟩=some u->X.imm b o->w'.cell? ⟨b,o,none⟩=some u/\X'.imm b o)(hm:∀o∈q05 c,∀b,X.mu[o]?=some b->X'.mu[ρ o]?=some b)(hk:c.isOwn=true->∀b k,X.G b=some (l,k)->X'.G b=some (l',k)/\w'.heap[b]?=w.heap[b]?)(h:RVl w X l c v):RVl w' X' l' (renAV ρ c) v:=by cases c with
 |undef=>trivial|skipped=>exact h|d x=>exact hrep _ _ h|own xs lt=>
  rcases h with h0|⟨h1,h2,h3⟩|⟨b,cap,cur,e,sz,rfl,hg,hw,hs,hz,hne,hsz,hc,hmx,hr⟩;·exact .inl h0
  .exact .inr (.inl ⟨h1,hrep _ _ h2,h3⟩)
  .obtain⟨g1,g2⟩:=hk rfl b _ hg;exact .inr (.inr ⟨b,cap,cur,e,sz,rfl,g1,g2.trans hw,hs,hz,hne,hsz,hc,hmx,fun i x hx j c hj=>let⟨u,hu,hru⟩:=hr i x hx j c hj;⟨u,hu,hrep _ _ hru⟩⟩)|ptr o off=>obtain⟨b,hb,hv⟩:=h;exact⟨b,hm o (by simp[q05]) _ hb,hv⟩|view cs=>obtain⟨b,off,hv,hh⟩:=h;exact⟨b,off,hv,fun j c hj=>let⟨u,h1,h2,h3⟩:=hh j c hj;⟨u,(hpt _ _ _ h1 h2).1,(hpt _ _ _ h1 h2).2,hrep _ _ h3⟩⟩|fn f caps=>obtain⟨vs,hv,hn,hh⟩:=h;refine⟨vs,hv,by simp_all,fun j o a hj=>?_⟩;rw[List.getElem?_map]at hj;cases hc:caps[j]? with|none=>simp_all|some oa=>obtain⟨o0,a0⟩:=oa;rw[hc]at hj;simp only[mS,sI,pI]at hj;obtain⟨rfl,rfl⟩:=hj;obtain⟨b,hb,hu⟩:=hh j o0 a0 hc;exact⟨b,hm o0 (by simp only[q05];grind) _ hb,hu⟩
 |ref o=>exact⟨hm o (by simp[q05]) _ h.1,h.2⟩|loc p=>exact h|elt p i off=>exact h|seg p i off=>exact h|agg cs=>exact h|tup cs=>exact h
def φm(o' o0:Nat):Loc->Option Loc|.blk o=>if o=o0 then none else some (.blk (ρm o' o0 o))|.cell o j=>if o=o0 then none else some (.cell (ρm o' o0 o) j)|l=>some l
def Cx.merge(X:Cx)(o' o0:Nat):Cx:={X.remap (φm o' o0)with mu:=(X.mu.set o0 (X.mu.getD o' (.blk 0))).take o'}
theorem q8j(X:Cx)(w:World)(o' o0:Nat):Ext X w (X.merge o' o0) w:=⟨rfl,Nat.le_refl _,rfl,rfl,rfl,(Ext.remap X w (φm o' o0)).free,(Ext.remap X w (φm o' o0)).own⟩
theorem qd6(ρ:Nat->Nat)(e:Env)(u:Nat):get (qgk ρ e) u=q6y ρ (get e u):=by induction e with|nil=>rfl|cons p r ih=>
  obtain⟨k,x⟩:=p;simp only[qgk,List.map_cons,get];split;·rfl
  .exact ih
theorem yac(e:Env)(u:Nat):get e u=.undef\/(u,get e u)∈e:=by induction e with|nil=>exact .inl rfl|cons p r ih=>obtain⟨k,x⟩:=p;simp only[get];grind
theorem y5l(hd:qac s o0=true)(u:Nat):o0∉q42 (get s.env u):=by
 simp only[qac,aT,List.all_eq_true]at hd;rcases yac s.env u with h|h;·rw[h];simp[q42,q05]
 grind
theorem qt9(hd:qac s o0=true){o:Nat}{cs:List AV}(h:s.heap[o]?=some cs)(hc:c∈cs):o0∉q05 c:=by simp only[qac,aT,List.all_eq_true]at hd;grind
theorem qrs(hlen:X.mu.length=o'+1)(h0:o0<o'){p:Nat}(hp:p≠o0){b:Home}(hb:X.mu[p]?=some b):(X.merge o' o0).mu[ρm o' o0 p]?=some b:=by
 have hlt:p<o'+1:=by rw[<-hlen];exact(List.getElem?_eq_some_iff.1 hb).1
 show((X.mu.set o0 (X.mu.getD o' (.blk 0))).take o')[ρm o' o0 p]?=some b;unfold ρm;grind
theorem RVl.merge(hlen:X.mu.length=o'+1)(h0:o0<o')(hp:o0∉q05 c)(hl:φm o' o0 l=some l')(h:RVl w X l c v):RVl w (X.merge o' o0) l' (renAV (ρm o' o0) c) v:=RVl.ren (fun d u hr=>(q8j X w o' o0).rep hr) (fun b o u h1 h2=>(q8j X w o' o0).point h1 h2) (fun o ho b hb=>qrs hlen h0 (fun e=>hp (e▸ho)) hb) (fun _ b k e=>⟨by show(X.remap (φm o' o0)).G b=_;rw[Cx.remap_some e,hl];rfl,rfl⟩) h
theorem Rel.merge(h:Rel E X s a w)(hlen:s.heap.length=o'+1)(h0:o0<o')(hd:qac s o0=true):Rel E (X.merge o' o0) (qhp o' o0 s) a w:=by
 have hml:X.mu.length=o'+1:=by rw[h.mu];omega
 refine⟨fun t=>?_,fun t ht=>?_,?_,fun o cs hcs=>?_,fun b l k e=>?_,h.amb,fun b l k e=>?_,fun g cs hg j c hj=>?_,h.defers⟩;·show RVe _ _ a w _ (get (qgk (ρm o' o0) (q0n s.env)) t) _;rw[qd6,q3n];have hdt:=y5l hd t;have ht:=h.env t;generalize get s.env t=v at ht hdt;cases v with
  |loc p=>exact trivial|elt p i off=>exact trivial|seg p i off=>exact trivial|agg cs=>obtain⟨vs,hv,hn,hh⟩:=ht;refine⟨vs,hv,by simp_all,fun j c hj=>?_⟩;rw[List.getElem?_map]at hj;cases hc:cs[j]? with|none=>simp_all|some c0=>rw[hc]at hj;simp only[mS,sI]at hj;subst hj;exact RVl.merge hml h0 (fun hm=>hdt (List.mem_flatMap.2 ⟨c0,List.mem_of_getElem? hc,hm⟩)) rfl (hh j c0 hc)
  |tup cs=>obtain⟨vs,hv,hn,hh⟩:=ht;refine⟨vs,hv,by simp_all,fun j c hj=>?_⟩;rw[List.getElem?_map]at hj;cases hc:cs[j]? with|none=>simp_all|some c0=>rw[hc]at hj;simp only[mS,sI]at hj;subst hj;obtain⟨g1,g2⟩:=hh j c0 hc;exact⟨by cases c0<;>first|rfl|exact g1,RVl.merge hml h0 (fun hm=>hdt (List.mem_flatMap.2 ⟨c0,List.mem_of_getElem? hc,hm⟩)) rfl g2⟩
  |undef=>trivial|skipped=>exact ht|d x=>exact RVl.merge (w:=w) (l:=.slot t 0) (l':=.slot t 0) (c:=.d x) hml h0 hdt rfl ht|own xs l=>exact RVl.merge (w:=w) (l:=.slot t 0) (l':=.slot t 0) (c:=.own xs l) hml h0 hdt rfl ht|ptr o off=>exact RVl.merge (w:=w) (l:=.slot t 0) (l':=.slot t 0) (c:=.ptr o off) hml h0 hdt rfl ht|view cs=>exact RVl.merge (w:=w) (l:=.slot t 0) (l':=.slot t 0) (c:=.view cs) hml h0 hdt rfl ht|ref o=>exact RVl.merge (w:=w) (l:=.slot t 0) (l':=.slot t 0) (c:=.ref o) hml h0 hdt rfl ht|fn f cs=>exact RVl.merge (w:=w) (l:=.slot t 0) (l':=.slot t 0) (c:=.fn f cs) hml h0 hdt rfl ht
 .obtain⟨v,hv,hne⟩:=ht;refine h.bound t ⟨_,rfl,fun e=>hne ?_⟩;rw[<-hv];show get (qgk (ρm o' o0) (q0n s.env)) t=_;rw[qd6,q3n,e];rfl
 .show((X.mu.set o0 (X.mu.getD o' (.blk 0))).take o').length=(((s.heap.set o0 (s.heap.getD o' [])).take o').map _).length;simp_all
 .have hcs':(((s.heap.set o0 (s.heap.getD o' [])).take o').map fun cs=>cs.map (renAV (ρm o' o0)))[o]?=some cs:=hcs;rw[List.getElem?_map]at hcs';cases hc1:((s.heap.set o0 (s.heap.getD o' [])).take o')[o]? with|none=>simp_all|some cs0=>
   rw[hc1]at hcs';simp only[mS,sI]at hcs';subst hcs';rw[List.getElem?_take]at hc1;split at hc1
   .rename_i holt;obtain⟨q,hq0,hqr,hq⟩:∃q,q≠o0/\ρm o' o0 q=o/\s.heap[q]?=some cs0:=by
     by_cases he:o=o0;·subst he;rw[List.getElem?_set_self (by omega)]at hc1;refine⟨o',by omega,by simp[ρm],?_⟩;rw[List.getD_eq_getElem?_getD,List.getElem?_eq_getElem (by omega)]at hc1;rw[List.getElem?_eq_getElem (by omega)];exact hc1
     .rw[List.getElem?_set_ne (fun e=>he e.symm)]at hc1;exact⟨o,he,by unfold ρm;rw[if_neg (by omega)],hc1⟩
    have lb:φm o' o0 (.blk q)=some (.blk o):=by simp[φm,hq0,hqr]
    have lc:∀j,φm o' o0 (.cell q j)=some (.cell o j):=fun j=>by simp[φm,hq0,hqr]
    rcases h.heap q cs0 hq with⟨b,cur,e,g1,g2,g3,g4,g5⟩|⟨v,c,g1,rfl,g2⟩
    .refine .inl ⟨b,cur,e,by rw[<-hqr];exact qrs hml h0 hq0 g1,?_,g3,by simpa using g4,fun j c hj=>⟨?_,trivial⟩⟩;·show(X.remap (φm o' o0)).G b=_;rw[Cx.remap_some g2,lb];rfl
     .rw[List.getElem?_map]at hj;cases hc:cs0[j]? with|none=>rw[hc]at hj;cases hj|some c0=>rw[hc]at hj;simp only[mS,sI]at hj;subst hj;exact RVl.merge hml h0 (qt9 hd hq (List.mem_of_getElem? hc)) (lc j) (g5 j c0 hc).1
    .exact .inr ⟨v,_,by rw[<-hqr];exact qrs hml h0 hq0 g1,rfl,RVl.merge hml h0 (qt9 hd hq (by simp)) (lc 0) g2⟩
   simp_all
 .have e':(X.remap (φm o' o0)).G b=some (l,k):=e;simp only[Cx.remap]at e';split at e';·rename_i l0 k0 h0;exact h.gdom b l0 k0 h0
  simp_all
 .have e':(X.remap (φm o' o0)).G b=some (l,k):=e;simp only[Cx.remap]at e';split at e';·rename_i l0 k0 h0;exact h.oamb b l0 k0 h0
  simp_all
 .obtain⟨u,h1,h2,h3⟩:=h.glob g cs hg j c hj;exact⟨u,((q8j X w o' o0).point h1 h2).1,((q8j X w o' o0).point h1 h2).2,(q8j X w o' o0).rep h3⟩
theorem qg1{k:Nat}:∀{m o:Nat},qd7 k s m=some o->k<=o/\o<m/\qac s o=true
 |0,_,h=>by cases h|m+1,o,h=>by
  simp only[qd7]at h;split at h;·simp_all
  .obtain⟨h1,h2,h3⟩:=qg1 h;grind
theorem Rel.regain{k m:Nat}:∀(n:Nat){X:Cx}{s:St},Rel E X s a w->m<=X.mu.length->∃X',X'.mu.take k=X.mu.take k/\m<=X'.mu.length/\Ext X w X' w/\Rel E X' (regain k m n s) a w
 |0,X,s,h,hm=>⟨X,rfl,hm,Ext.refl X w,h⟩|n+1,X,s,h,hm=>by
  simp only[Ab.regain];split
  .rename_i hc;split
   .rename_i o0 hf;obtain⟨h1,h2,h3⟩:=qg1 hf;have hlen:s.heap.length=(s.heap.length-1)+1:=by omega
    have hR:=h.merge (o':=s.heap.length-1) hlen (by omega) h3;have hml:X.mu.length=(s.heap.length-1)+1:=by rw[h.mu];omega
    have hmul:(X.merge (s.heap.length-1) o0).mu.length=s.heap.length-1:=by show((X.mu.set o0 _).take _).length=_;grind
    obtain⟨X',g1,g2,g3,g4⟩:=Rel.regain (k:=k) (m:=m) n hR (by omega);refine⟨X',g1.trans ?_,g2,Ext.trans h.gdom (q8j X w _ _) g3,g4⟩;show((X.mu.set o0 _).take _).take k=_;rw[List.take_take,Nat.min_eq_left (by omega),List.take_set_of_le h1]
   .exact⟨X,rfl,hm,Ext.refl X w,h⟩
  .exact⟨X,rfl,hm,Ext.refl X w,h⟩
end Go.Ab

namespace Go.Ab
variable {ops : Array Oper} {o : Oper} {h : FuncId} {r : Rule} {n : Nat} {vs : List AV} {dst : Option Nat}
variable {E : Env0} {X : Cx} {s s1 : St} {a : Act} {w : World}
def After(E:Env0)(X:Cx)(w:World)(nt:Nat)(s1:St)(a':Act)(w':World):Prop:=a'.tmps.size=nt/\∃X',(∃more,X'.mu=X.mu++more)/\Ext X w X' w'/\Rel E X' s1 a' w'
theorem After.trans(hg:∀b l k,X.G b=some (l,k)->b<w.heap.size){X1:Cx}{w1 w2:World}{nt:Nat}{s2:St}{a2:Act}(hm:∃more,X1.mu=X.mu++more)(hE:Ext X w X1 w1)(h:After E X1 w1 nt s2 a2 w2):After E X w nt s2 a2 w2:=by obtain⟨hn,X2,⟨m2,hm2⟩,hE2,hR2⟩:=h;obtain⟨m1,hm1⟩:=hm;exact⟨hn,X2,⟨m1++m2,by simp_all⟩,Ext.trans hg hE hE2,hR2⟩
theorem q4z(a:Act)(dst:Option Nat)(v:Value):(a.put dst v).tmps.size=a.tmps.size:=by cases dst<;>simp[Act.put]
theorem y18(h:Rel E X s a w):∀{cs:List AV}{ds:List D}{vs:Array Value},vs.size=cs.length->(∀(j:Nat)c,cs[j]?=some c->RVl w X (.res j) c (vs.getD j undef))->q0s cs=some ds->Rep w (X.remap φres).imm (.agg ds) (.agg vs):=by
 intro cs ds vs hn hh hf;obtain⟨h3,h4⟩:=q2s hf;refine .agg ds vs (by omega) (fun j d hj=>?_);have hlt:j<cs.length:=by grind
 obtain⟨d',hd',hfd⟩:=h4 j cs[j] (by simp);rw[hj]at hd';cases hd';exact RVl.frozen h (hh j cs[j] (by simp)) hfd
theorem Sound.put{r:Result Next}{v:AV}(hs:Sound E X a w r v s1)(fl:Flag)(dst:Option Nat)(hd:∀t,dst=some t->t<a.tmps.size):∃val w1,r=.ok (.value val) w1/\∃X',(∃more,X'.mu=X.mu++more)/\(∀(_:∀b l k,X.G b=some (l,k)->b<w.heap.size),Ext X w X' w1)/\Rel E X' (s1.put dst (q4d fl v)) (a.put dst val) w1:=by obtain⟨val,w1,X1,hr,hm,hE,hR,hv⟩:=hs;refine⟨val,w1,hr,?_⟩;cases dst with|none=>exact⟨X1,hm,fun _=>hE,hR⟩|some t=>
  have hb:=hd t rfl;have hkeep:∃X2,X2.mu=X1.mu/\Ext X1 w1 X2 w1/\Rel E X2 s1 a w1/\RVe X2 s1 a w1 .res (q4d fl v) val:=by have stay:q4d fl v=v->∃X2,X2.mu=X1.mu/\Ext X1 w1 X2 w1/\Rel E X2 s1 a w1/\RVe X2 s1 a w1 .res (q4d fl v) val:=fun e=>⟨X1,rfl,Ext.refl X1 w1,hR,by simp_all⟩;cases fl with|keep=>exact stay (by cases v<;>rfl)|view=>cases v with
    |own xs l=>exact⟨X1.remap φres,rfl,Ext.remap X1 w1 φres,hR.dropRes,OwnOk.frozen (φ:=φres) rfl hR.oamb hv⟩|agg cs=>cases hf:q0s cs with|none=>exact stay (by simp[q4d,hf])|some ds=>
      obtain⟨vs,rfl,hn,hh⟩:=hv;refine⟨X1.remap φres,rfl,Ext.remap X1 w1 φres,hR.dropRes,?_⟩;have:q4d .view (.agg cs)=.d (.agg ds):=by simp[q4d,hf]
      rw[this];exact y18 hR hn hh hf
    |_=>exact stay rfl
  obtain⟨X2,hmu2,hE2,hR2,hv2⟩:=hkeep;obtain⟨X3,hmu3,hE3,hR3⟩:=hR2.put hb hv2;obtain⟨more,hmore⟩:=hm;exact⟨X3,⟨more,by simp_all⟩,fun hg=>Ext.trans hg (Ext.trans hg hE hE2) hE3,hR3⟩
theorem q9p(h:Rel E X s a w){b:Bool}(hg:q17 ops s o=some b):Region.wanted o (yielded ops a.tmps)=b:=by unfold q17 at hg;unfold Region.wanted;cases hgd:o.guard with|none=>simp_all|some jw=>obtain⟨j,want⟩:=jw;rw[hgd]at hg;simp only at hg⊢;cases hd:(ops[j]?).bind (·.dst)with|none=>simp_all|some d=>simp only[hd,mS]at hg;have ht:=h.env d;generalize hc:get s.env d=c at hg ht;have hlt:c≠.undef->d<a.tmps.size:=fun hne=>h.bound d ⟨c,hc,hne⟩;cases c with
   |d x=>cases x with|v u=>
     cases u<;>simp at hg;rename_i bb;have hl:=hlt (by simp);have hv:=q0t (show Rep w X.imm (.v (.bool bb)) (a.tmps.getD d undef)from ht);have e:a.tmps[d]?=some (.bool bb):=by rw[Array.getElem?_eq_getElem hl];simpa[Array.getD,hl]using hv
     simp only[yielded,hd,bS,e];simp_all|_=>grind
   |skipped=>
    simp at hg;subst hg;have hl:=hlt (by simp);have hv:a.tmps.getD d undef=undef:=ht;have e:a.tmps[d]?=some undef:=by simp_all
    simp only[yielded,hd,bS,e];rfl|_=>grind
theorem ArgRel.caps{vs:List AV}{args cvs:Array Value}{caps:List (Nat×Nat)}(hargs:ArgRel w X vs args)(hcn:cvs.size=caps.length)(hcc:∀(j:Nat)o a,caps[j]?=some (o,a)->∃b,X.mu[o]?=some (.blk b)/\cvs[j]?=some (.pointer (some ⟨b,a,none⟩))):ArgRel w X (vs++caps.map fun(o,a)=>AV.ptr o a) (args++cvs):=by
 obtain⟨g1,g2⟩:=hargs;refine⟨by simp_all,fun i u hiu=>?_⟩;by_cases hlt:i<vs.length
 .rw[List.getElem?_append_left hlt]at hiu;obtain⟨g3,g4⟩:=g2 i u hiu;have e:(args++cvs).getD i undef=args.getD i undef:=by
   have:i<args.size:=by rw[g1];exact hlt
   simp only[Array.getD_eq_getD_getElem?,Array.getElem?_append_left this]
  simp_all
 .rw[List.getElem?_append_right (by omega),List.getElem?_map]at hiu;cases hcap:caps[i-vs.length]? with|none=>simp_all|some oa=>
   obtain⟨oo,aa⟩:=oa;rw[hcap]at hiu;simp at hiu;subst hiu;obtain⟨b,hb1,hb2⟩:=hcc (i-vs.length) oo aa hcap;have e:(args++cvs).getD i undef=.pointer (some ⟨b,aa,none⟩):=by
    have hge:args.size<=i:=by rw[g1];omega
    simp only[Array.getD_eq_getD_getElem?,Array.getElem?_append_right hge];simp_all
   rw[e];exact⟨rfl,b,hb1,rfl⟩
def q4h(E:Env0)(n:Nat):Prop:=∀(r:Rule)(h:FuncId)(vs:List AV)(dst:Option Nat)(s s1:St),callA E r n h vs dst s=some s1->∀(X:Cx)(a:Act)(w:World)(args:Array Value),Rel E X s a w->ArgRel w X vs args->(∀t,dst=some t->t<a.tmps.size)->Calls E.P h args w fun e w'=>∃val,e=.returned val/\After E X w a.tmps.size s1 (a.put dst val) w'/\(r.draws=true->∀(o:Nat)b,X.mu[o]?=some (.blk b)->above r.mode o=true->w'.heap[b]?=w.heap[b]?)/\(∀b t j k,X.G b=some (.slot t j,k)->w'.heap[b]?=w.heap[b]?)
def Quiet(X:Cx)(a:Act)(w:World)(r:Rule)(ops:Array Oper)(o:Oper)(a':Act)(w':World):Prop:=(∃val,a'=a.put o.dst val)/\(r.draws=true->q1n o.op=true->∀b t j k,X.G b=some (.slot t j,k)->w'.heap[b]?=w.heap[b]?)/\(r.draws=true->(q1n o.op=true\/(q19 o.op=true/\1<=r.mode/\q3g ops o=true))->∀(o:Nat)b,X.mu[o]?=some (.blk b)->above r.mode o=true->w'.heap[b]?=w.heap[b]?)
def q9g(E:Env0):Prop:=∀h,E.ok h=true->∃fn c,E.P.funcs[h]?=some fn/\fn.body=some c/\fn.name≠ "runtime.NumGoroutine"
theorem qja{E:Env0}(hb:q9g E)(ho:E.ok h=true)(args:Array Value)(w:World):(callFunc h args).run E.P w=.ok (.enter h args) w:=by
 obtain⟨fn,c,h1,h2,h3⟩:=hb h ho;have h3':(fn.name== "runtime.NumGoroutine")=false:=by simp_all
 simp[callFunc,h1,h2,h3]
theorem q5g{E:Env0}{s s1:St}(hc:callA E r (n+1) h vs dst s=some s1):∃objs hs v h',reach s.heap (s.heap.length+1) (q4q [] (vs.flatMap q05))=some objs/\(r.draws=true->∀o∈objs,above r.mode o=false)/\q4e s.heap objs=some hs/\(call E n h (vs.map (renAV (objs.idxOf ·))) (hs.map fun cs=>cs.map (renAV (objs.idxOf ·)))).map (q7v r.keep objs.length)=some (v,h')/\(r.draws=true->h'.length<=objs.length)/\s1=St.put (q4c s objs h') dst (qav (q0u objs s.heap.length) v):=by simp only[callA]at hc;grind
theorem y6g{E:Env0}{s s1:St}(hc:callA E r (n+1) h vs dst s=some s1):∃m,n=m+1/\E.ok h=true:=by obtain⟨objs,hs,v,h',_,_,_,h4,_⟩:=q5g hc;cases n with|zero=>simp[call]at h4|succ m=>refine⟨m,rfl,?_⟩;simp only[call]at h4;grind
theorem q7e(hcall:∀m,m<n->q4h E m)(hb:q9g E){f:FuncId}{i:Nat}(hi:ops[i]?=some o)(h:Rel E X s a w)(hd:∀t,o.dst=some t->t<a.tmps.size)(hp:runOp E f r ops n o s=some s1)(Q:Exit->Act->World->Prop)(K:Act->World->Prop)(hK:∀a' w',After E X w a.tmps.size s1 a' w'->(q17 ops s o=some true->Quiet X a w r ops o a' w')->K a' w'):wpOp E.P ops Q i K a w:=by cases n with|zero=>simp[runOp]at hp|succ n=>simp only[runOp]at hp;unfold wpOp;simp only[hi];cases hg:q17 ops s o with|none=>simp_all|some b=>have hwant:=q9p h hg;rw[hwant];cases b with
   |false=>simp only[hg,sI]at hp;subst hp;simp only[fT,if_false];refine hK _ _ ?_ (fun e=>by simp_all);cases hdst:o.dst with|none=>exact⟨rfl,X,⟨[],by simp⟩,Ext.refl X w,h⟩|some t=>obtain⟨X',hmu,hE,hR⟩:=h.put (v:=.skipped) (val:=undef) (hd t hdst) rfl;exact⟨q4z a _ _,X',⟨[],by grind⟩,hE,hR⟩
   |true=>
    simp only[hg]at hp;simp only[if_true];refine .inl ?_;unfold Oper.wp;have simple:∀(hns:q1n o.op=false)(hnst:q19 o.op=false)(hq:(if q4f E (qao E.an f r ops o) s o.op then match q01 E (E.an.flag f (o.dst.getD 0)) (r.draws&&!q4a ops o.op) o.op s with|some (v,s1)=>some ((s1.del (q5x o.op)).put o.dst (q4d (E.an.flag f (o.dst.getD 0)) v))|none=>none else none)=some s1),o.upon E.P a K Q ((execOp a.eval o).run E.P w):=by
     intro hns hnst hq;split at hq;·cases hst:q01 E (E.an.flag f (o.dst.getD 0)) (r.draws&&!q4a ops o.op) o.op s with|none=>simp[hst]at hq|some vs=>obtain⟨v,s2⟩:=vs;simp only[hst,sI]at hq;subst hq;obtain⟨val,w1,hr,X',hm,hE,hR⟩:=(qcs h o hst).put (E.an.flag f (o.dst.getD 0)) o.dst hd;rw[hr,Oper.upon_value];exact hK _ _ ⟨q4z a _ _,X',hm,hE h.gdom,hR⟩ (fun _=>⟨⟨_,rfl⟩,fun _ hc=>(by rw[hns]at hc;cases hc),fun _ hc=>hc.elim (fun e=>by rw[hns]at e;cases e) (fun e=>by rw[hnst]at e;exact absurd e.1 (by simp))⟩)
     grind
    cases hop:o.op with
    |store t ad x=>
     simp only[hop]at hp;split at hp
     .rename_i hnone0;simp only[aT]at hnone0;obtain⟨hnone,hst⟩:=hnone0;obtain⟨w1,X1,hr,hm,hE,hR,hq⟩:=qqy h o hop hp;rw[hr,Oper.upon_skip];have hdn:o.dst=none:=by simpa using hnone
      rw[hdn];refine hK _ _ ⟨rfl,X1,hm,hE,hR⟩ (fun _=>⟨⟨undef,by rw[hdn]⟩,fun _ hc=>(by rw[hop]at hc;cases hc),fun hd1 hc o1 b1 hmu1 hab=>hq o1 b1 hmu1 (fun off he=>?_)⟩);rcases hc with hc|⟨_,hc,hgn⟩;·rw[hop]at hc;cases hc
      .simp only[qdk,qc9,hd1,hgn,Bool.and_self,nT,Bool.false_or,he,hab,Bool.or_false,beq_iff_eq]at hst;omega
     simp_all|call c=>obtain⟨callee,args,ts⟩:=c;cases callee with
     |value g=>
      simp only[hop]at hp;have go:∀(hf:FuncId)(caps:List (Nat×Nat))(vs:List AV)(s1' s2:St)(X1:Cx),ev E s g=.fn hf caps->Rel E X1 s1' a w->ArgRel w X1 vs (args.toList.map a.eval).toArray->(∃more,X1.mu=X.mu++more)->callA E (q5o E.an f r o) n hf (vs++caps.map fun(o,a)=>AV.ptr o a) o.dst s1'=some s2->(∀a' w',After E X1 w a.tmps.size s2 a' w'->(∃val,a'=a.put o.dst val)->((r.draws=true->∀(o:Nat)b,X1.mu[o]?=some (.blk b)->above r.mode o=true->w'.heap[b]?=w.heap[b]?)/\(∀b t j k,X1.G b=some (.slot t j,k)->w'.heap[b]?=w.heap[b]?))->K a' w')->o.upon E.P a K Q ((execOp a.eval o).run E.P w):=by intro hf caps vs s1' s2 X1 hev hR1 hargs⟨more,hmore⟩hpc hK1;cases n with|zero=>simp[callA]at hpc|succ n=>
       obtain⟨m,rfl,hok⟩:=y6g hpc;obtain⟨L,hr⟩:=h.operand g;rw[hev]at hr;obtain⟨cvs,hgv,hcn,hcc⟩:=hr;have hfull:ArgRel w X1 (vs++caps.map fun(o,a)=>AV.ptr o a) ((args.toList.map a.eval).toArray++cvs):=hargs.caps hcn (fun j o a hj=>let⟨b,hb,hu⟩:=hcc j o a hj;⟨b,by grind,hu⟩);have hrun:(execOp a.eval o).run E.P w=.ok (.enter hf ((args.toList.map a.eval).toArray++cvs)) w:=by
        have e:args.map a.eval=(args.toList.map a.eval).toArray:=by grind
        simp only[execOp,hop,resolve,hgv,Deferred.ofValue,Sem.run_bind,Sem.run_pure,Result.andThen_ok,invoke,e];simpa using qja hb hok ((args.toList.map a.eval).toArray++cvs) w
       rw[hrun,Oper.upon_enter];refine(hcall (m+1+1) (by omega) (q5o E.an f r o) hf _ o.dst s1' s2 hpc X1 a w _ hR1 hfull hd).mono ?_;rintro e w'⟨val,rfl,haft,hq⟩;exact hK1 _ _ haft ⟨val,rfl⟩ hq
      by_cases hsh:q4y s args.toList=true
      .rw[if_pos hsh]at hp;by_cases hdr:r.draws=true;·simp_all
       .rw[if_neg hdr]at hp;cases hev:ev E s g with
        |fn hf caps=>cases ha:q52 E s args.toList with|none=>simp_all|some q=>obtain⟨vs,s1',sh⟩:=q;simp only[hev,ha]at hp;cases hc:callA E (q5o E.an f r o) n hf (vs++caps.map fun(o,a)=>AV.ptr o a) o.dst s1' with|none=>simp_all|some s2=>
           simp only[hc]at hp;obtain⟨X1,⟨m1,hm1⟩,hE1,hR1,hA1,hL1,hge1⟩:=qc0 args.toList h ha;refine go hf caps vs s1' s2 X1 hev hR1 hA1 ⟨m1,hm1⟩ hc (fun a' w' haft⟨val,hval⟩_=>?_);obtain⟨hsz,X2,⟨m2,hm2⟩,hE2,hR2⟩:=haft;have hLB:LentB X2 a' o.dst sh:=fun p hp=>by obtain⟨g1,g2⟩:=hL1 p hp;refine⟨a.tmps.getD p.2 undef,by grind,fun hne=>?_,by omega⟩;rw[hval];cases hdst:o.dst with|none=>rfl|some d=>rw[q6d a d p.2 val (hd d hdst),if_neg (fun e=>hne (by grind))]
           obtain⟨X3,⟨k,hk,hmu3⟩,hE3,hR3⟩:=qge (fun d hdd=>by grind) sh X.mu.length hR2 hp hLB (by grind) (fun p hp=>by rw[h.mu];grind);refine hK a' w' ⟨hsz,X3,⟨((m1++m2).take (k-X.mu.length)),?_⟩,Ext.trans h.gdom hE1 (Ext.trans hR1.gdom hE2 hE3),hR3⟩ (fun _=>⟨⟨val,hval⟩,fun hd1=>absurd hd1 hdr,fun hd1=>absurd hd1 hdr⟩);rw[hmu3,hm2,hm1,List.append_assoc,List.take_append,List.take_of_length_le hk]
        |_=>simp_all
      .rw[if_neg hsh]at hp;cases hev:ev E s g with
       |fn hf caps=>cases ha:qaw E s args.toList with|none=>simp_all|some vs=>simp only[hev,ha]at hp;exact go hf caps vs s s1 X hev h (qq1 h ha) ⟨[],by simp⟩ hp (fun a' w' haft hv hq=>hK _ _ haft (fun _=>⟨hv,fun _ _=>hq.2,fun hr _=>hq.1 hr⟩))
       |_=>simp_all
     |builtin b=>simp only[hop]at hp;exact simple (by rw[hop];rfl) (by rw[hop];rfl) (by grind)|invoke rc m=>simp only[hop]at hp;exact simple (by rw[hop];rfl) (by rw[hop];rfl) (by grind)
    |_=>simp only[hop]at hp;exact simple (by rw[hop];rfl) (by rw[hop];rfl) (by grind)
end Go.Ab

namespace Go.Ab
variable {f : FuncId} {c : Code} {ops : Array Oper} {w0 : World} {k nt : Nat} {P : Program}
variable {E : Env0} {X : Cx} {s s1 : St} {a : Act} {w : World}
def qy5(E:Env0)(check:Nat->Nat->Array Oper->Bool):Prop:=(∀n,(∀m,m<n->q4h E m)->∀(f:FuncId)(id:Nat)(ops:Array Oper)(s s1:St),check f id ops=true->q9d E.an f ops s=true->agree ((E.an.order f id).map fun l=>(runOps E f (q3k E.an f id ops) ops n (q0e ops l) s).map (clr E f id))=some s1->∀(X:Cx)(a:Act)(w:World),Rel E X s a w->(∀o∈ops,∀t,o.dst=some t->t<a.tmps.size)->(∀K:Act->World->Prop,(∀a' w',After E X w a.tmps.size s1 a' w'->K a' w')->(Code.region id ops true).wp E.P (fun e a' w'=>e=.normal/\K a' w') a w))/\∀n,(∀m,m<n->q4h E m)->∀(f:FuncId)(id:Nat)(ops:Array Oper)(l1 l2:List Nat)(s s1 s2:St),check f id ops=true->E.an.order f id=[l1,l2]->E.an.mode f id=0->runOps E f rule0 ops n (q0e ops l1) s=some s1->runOps E f rule0 ops n (q0e ops l2) s=some s2->∀(X:Cx)(a:Act)(w:World),Rel E X s a w->(∀o∈ops,∀t,o.dst=some t->t<a.tmps.size)->(∀K:Act->World->Prop,(∀a' w',After E X w a.tmps.size s1 a' w'\/After E X w a.tmps.size s2 a' w'->K a' w')->(Code.region id ops true).wp E.P (fun e a' w'=>e=.normal/\K a' w') a w)
theorem y11{an:An}{id:Nat}{l1 l2:List Nat}(h:twoOf an f c=some (id,ops,l1,l2)):c=.region id ops true/\an.order f id=[l1,l2]/\an.mode f id=0:=by unfold twoOf at h;grind
theorem qpz{m:Nat}{A B:Option (Ex×St)}{r:Ex}{s:St}(h:joinQ m A B=some (r,s)):∃q1 q2,A=some (r,q1)/\B=some (r,q2)/\trim m q1=s/\trim m q2=s:=by unfold joinQ at h;grind
def q5w(check:Nat->Nat->Array Oper->Bool)(f:Nat)(nt:Nat):Code->Bool|.region id ops draw=>(ops.all fun o=>match o.dst with|some t=>decide (t<nt)|none=>true)&&(!draw||check f id ops)|.seq a b|.cond _ a b=>q5w check f nt a&&q5w check f nt b|.block _ b|.loop b=>q5w check f nt b|_=>true
def y2p:Ex->Exit|.normal=>.normal|.exit id=>.exit id|.ret=>.ret
theorem q80{n:Nat}(hcall:∀m,m<n->q4h E m)(hb:q9g E){f:FuncId}{r:Rule}{ops:Array Oper}:∀(l:List Oper)(k n':Nat){X:Cx}{s s1:St}{a:Act}{w:World},n'<=n->(∀j,l[j]?=ops[k+j]?)->(∀o∈l,∀t,o.dst=some t->t<a.tmps.size)->runOps E f r ops n' l s=some s1->Rel E X s a w->∀(K:Exit->Act->World->Prop),(∀a' w',After E X w a.tmps.size s1 a' w'->K .normal a' w')->wpOps E.P ops K (List.range' k l.length) a w|[],k,n',X,s,s1,a,w,hn,hl,hd,hp,h,K,hK=>by rw[q6x,sI]at hp;subst hp;exact hK _ _ ⟨rfl,X,⟨[],by simp⟩,Ext.refl X w,h⟩|o::l,k,n',X,s,s1,a,w,hn,hl,hd,hp,h,K,hK=>by·rw[q0q]at hp;cases hr:runOp E f r ops n' o s with|none=>grind|some s2=>
    simp only[hr]at hp;have h0:ops[k]?=some o:=by simpa using(hl 0).symm
    rw[List.length_cons,List.range'_succ,wpOps_cons];refine q7e (fun m' hm'=>hcall m' (by omega)) hb h0 h (fun t ht=>hd o (by simp) t ht) hr _ _ (fun a' w' haft _=>?_);obtain⟨hsz,X',hm,hE,hR⟩:=haft;refine q80 hcall hb l (k+1) n' hn (fun j=>by have:=hl (j+1);grind) (fun o' ho' t ht=>by grind) hp hR K (fun a2 w2 h2=>hK _ _ ?_);rw[hsz]at h2;exact After.trans h.gdom hm hE h2
theorem quf{i:Nat}{o:Oper}(hi:ops[i]?=some o)(h:Rel E X s a w)(hd:∀t,o.dst=some t->t<a.tmps.size)(hp:qv0 E f o s=some s1)(Q:Exit->Act->World->Prop)(K:Act->World->Prop)(hK:∀a' w',After E X w a.tmps.size s1 a' w'->K a' w'):wpOp E.P ops Q i K a w:=by
 unfold qv0 at hp;split at hp
 .rename_i t r d hop hg hdst;split at hp
  .split at hp
   .rename_i p off ht hn hx;split at hp
    .rename_i xs hc;simp only[sI]at hp;subst hp;obtain⟨b,hb,hev⟩:=h.ptr (x:=.tmp r) hx;obtain⟨X1,val,hval,hmu1,hE1,hR1,hO1⟩:=h.moveOut hc;have hu:w.cell? ⟨b,off,none⟩=some val:=by simpa[cval,hb]using hval
     have hrun:(execOp a.eval o).run E.P w=.ok (.value (.agg #[val])) w:=q15 hop hev (q1k (vs:=[val]) ht hn rfl (fun j v hj=>by cases j with|zero=>simp at hj;subst hj;simpa using hu|succ j=>simp at hj));obtain⟨X2,hmu2,hE2,hR2⟩:=hR1.put (hd d hdst) (v:=.agg [.own xs false]) (val:=.agg #[val]) ⟨#[val],rfl,rfl,fun j c hj=>by cases j with|zero=>simp at hj;subst hj;exact hO1|succ j=>simp at hj⟩;unfold wpOp;simp only[hi];rw[q9p h (show q17 ops s o=some true by simp only[q17,hg])];simp only[if_true];refine .inl ?_;unfold Oper.wp;rw[hrun,Oper.upon_value];refine hK _ _ ⟨q4z a _ _,X2,⟨[],by simp[hmu2,hmu1]⟩,Ext.trans h.gdom hE1 hE2,?_⟩;rw[hdst];exact hR2
    .cases hp
   .cases hp
  .cases hp
 grind
theorem qqp{n:Nat}(hcall:∀m,m<n->q4h E m)(hb:q9g E){r:Rule}{s2:St}(hd:∀o∈ops.toList,∀t,o.dst=some t->t<a.tmps.size)(hp:runOps E f r ops n (q5i E f ops s).1 (q5i E f ops s).2=some s2)(h:Rel E X s a w)(K:Exit->Act->World->Prop)(hK:∀a' w',After E X w a.tmps.size s2 a' w'->K .normal a' w'):wpOps E.P ops K (List.range' 0 ops.toList.length) a w:=by
 unfold q5i at hp;split at hp;·rename_i hl;rw[hl]at hd⊢;exact q80 hcall hb [] 0 n (Nat.le_refl _) (fun j=>by grind) hd hp h K hK
 .rename_i o l hl;split at hp
  .rename_i s1 ht;have h0:ops[0]?=some o:=by rw[<-Array.getElem?_toList,hl];rfl
   rw[hl]at hd⊢;rw[List.length_cons,List.range'_succ,wpOps_cons];refine quf h0 h (fun t ht=>hd o (by simp) t ht) ht _ _ (fun a' w' haft=>?_);obtain⟨hsz,X',hm,hE,hR⟩:=haft;refine q80 hcall hb l 1 n (Nat.le_refl _) (fun j=>by rw[<-Array.getElem?_toList,hl,Nat.add_comm];rfl) (fun o' ho' t ht=>by grind) hp hR K (fun a2 w2 h2=>hK _ _ ?_);rw[hsz]at h2;exact After.trans h.gdom hm hE h2
  .rw[hl]at hd⊢;exact q80 hcall hb (o::l) 0 n (Nat.le_refl _) (fun j=>by grind) hd hp h K hK
theorem Rel.clear(h:Rel E X s a w)(l:List Nat):Rel E X {s with env:=q59 s.env l} a w:=by refine h.less (s':={s with env:=q59 s.env l}) rfl (fun t=>?_) (fun o j=>.inl rfl) (fun o cs hcs=>⟨cs,hcs,rfl⟩);show get (q59 s.env l) t=get s.env t\/_;generalize s.env=e;induction l generalizing e with|nil=>exact .inl rfl|cons k r ih=>
  simp only[q59];rcases ih (q7c e k)with h1|h1
  .rw[h1,q6q];split;·exact .inr rfl
   .exact .inl rfl
  grind
theorem After.clear(l:List Nat)(h:After E X w0 nt s a w):After E X w0 nt {s with env:=q59 s.env l} a w:=by obtain⟨h1,X',hm,hE,hR⟩:=h;exact⟨h1,X',hm,hE,hR.clear l⟩
theorem After.trim{w0:World}{nt m:Nat}(hg:∀b l k,X.G b=some (l,k)->b<w0.heap.size)(hm:X.mu.length=m)(h:After E X w0 nt s a w):After E X w0 nt (trim m s) a w:=by
 unfold Ab.trim;split
 .rename_i hok;obtain⟨h1,X',⟨more,hmo⟩,hE,hR⟩:=h;have hle:m<=s.heap.length:=by rw[<-hR.mu,hmo,List.length_append];omega
  refine⟨h1,X'.trim m,⟨[],?_⟩,Ext.trans hg hE (q1o X' w m),hR.trimAt hle hok⟩;show X'.mu.take m=X.mu++[];simp_all
 omega
def LoopWp(P:Program)(c:Code)(Q:Exit->Act->World->Prop)(a:Act)(w:World):Prop:=∀(b:Frame)(k:List Item)(cs:List Frame),∃e a' w',Q e a' w'/\Arrives P (lone (b.at a (.code c::.inLoop c::k)) cs w) b k cs e a' w'
theorem LoopWp.start{Q:Exit->Act->World->Prop}(h:LoopWp P c Q a w):(Code.loop c).wp P Q a w:=by intro b k cs;obtain⟨e,a',w',hq,harr⟩:=h b k cs;exact⟨e,a',w',hq,.of_steps (.one step_loop) harr⟩
theorem LoopWp.round{Q:Exit->Act->World->Prop}(h:c.wp P (Exit.then (LoopWp P c Q) Q) a w):LoopWp P c Q a w:=by intro b k cs;obtain⟨e,a₁,w₁,hq,harr⟩:=h b (.inLoop c::k) cs;cases e with|normal=>obtain⟨e₂,a₂,w₂,hq₂,harr₂⟩:=hq b k cs;exact⟨e₂,a₂,w₂,hq₂,.of_steps (Steps.trans harr (.one step_inLoop)) harr₂⟩|exit id=>exact⟨_,a₁,w₁,hq,.pass (x:=.inLoop c) rfl (fun _ _=>.inl (by simp)) harr⟩|goto l=>exact⟨_,a₁,w₁,hq,.pass (x:=.inLoop c) rfl (fun _ _=>.inl (by simp)) harr⟩|ret=>exact⟨_,a₁,w₁,hq,.pass (x:=.inLoop c) rfl (fun _ _=>.inl (by simp)) harr⟩|panic ch=>exact⟨_,a₁,w₁,hq,.pass (x:=.inLoop c) rfl (fun _ _=>.inl (by simp)) harr⟩|outgrown=>exact⟨_,a₁,w₁,hq,.pass (x:=.inLoop c) rfl (fun _ _=>.inl (by simp)) harr⟩
def AfterK(E:Env0)(k:Nat)(X:Cx)(w0:World)(nt:Nat)(s:St)(a:Act)(w:World):Prop:=a.tmps.size=nt/\∃X',X'.mu.take k=X.mu.take k/\X.mu.length<=X'.mu.length/\Ext X w0 X' w/\Rel E X' s a w
theorem After.weak(hk:k<=X.mu.length)(h:After E X w0 nt s a w):AfterK E k X w0 nt s a w:=by obtain⟨h1,X',⟨more,hm⟩,hE,hR⟩:=h;refine⟨h1,X',?_,by simp_all,hE,hR⟩;grind
theorem AfterK.trans{w1:World}{X':Cx}(hg:∀b l k,X.G b=some (l,k)->b<w0.heap.size)(hm:X'.mu.take k=X.mu.take k)(hl:X.mu.length<=X'.mu.length)(hE:Ext X w0 X' w1)(h:AfterK E k X' w1 nt s a w):AfterK E k X w0 nt s a w:=by obtain⟨h1,X2,g1,g2,g3,g4⟩:=h;exact⟨h1,X2,g1.trans hm,Nat.le_trans hl g2,Ext.trans hg hE g3,g4⟩
theorem AfterK.trim{w0:World}{nt m k:Nat}(hg:∀b l k,X.G b=some (l,k)->b<w0.heap.size)(hm:X.mu.length=m)(hk:k<=m)(h:AfterK E k X w0 nt s a w):AfterK E k X w0 nt (trim m s) a w:=by
 unfold Ab.trim;split
 .rename_i hok;obtain⟨h1,X',g1,g2,hE,hR⟩:=h;have hle:m<=s.heap.length:=by rw[<-hR.mu];omega
  refine⟨h1,X'.trim m,?_,?_,Ext.trans hg hE (q1o X' w m),hR.trimAt hle hok⟩;·show(X'.mu.take m).take k=_;grind
  .show _<=(X'.mu.take m).length;simp_all
 omega
theorem AfterK.endRound{w0:World}{nt m k:Nat}(hg:∀b l k,X.G b=some (l,k)->b<w0.heap.size)(hm:X.mu.length=m)(hk:k<=m)(h:AfterK E k X w0 nt s a w):AfterK E k X w0 nt (endRound k m s) a w:=by obtain⟨h1,X',g1,g2,hE,hR⟩:=h;obtain⟨X2,q1,q2,q3,q4⟩:=Rel.regain (k:=k) (m:=m) 3 hR (by omega);exact AfterK.trim hg hm hk ⟨h1,X2,q1.trans g1,by omega,Ext.trans hg hE q3,q4⟩
def EndOk(E:Env0)(k:Nat)(X:Cx)(w:World)(nt:Nat)(r:Ex)(s1:St)(e:Exit)(a':Act)(w':World):Prop:=e=y2p r/\AfterK E k X w nt s1 a' w'
theorem qi7{check:Nat->Nat->Array Oper->Bool}(hb:q9g E)(hd:qy5 E check):∀(n:Nat),(∀m,m<n->q4h E m)->(∀(f:FuncId)(k:Nat)(c:Code)(s s1:St)(r:Ex),exec E f k n c s=some (r,s1)->∀(X:Cx)(a:Act)(w:World),k<=X.mu.length->q5w check f a.tmps.size c=true->Rel E X s a w->c.wp E.P (EndOk E k X w a.tmps.size r s1) a w)/\(∀(f:FuncId)(k:Nat)(c:Code)(s s1:St)(r:Ex),exec E f k n (.loop c) s=some (r,s1)->∀(X:Cx)(a:Act)(w:World),k<=X.mu.length->q5w check f a.tmps.size c=true->Rel E X s a w->LoopWp E.P c (EndOk E k X w a.tmps.size r s1) a w)
 |0,_=>⟨fun f k c s s1 r hp=>by simp[exec]at hp,fun f k c s s1 r hp=>by simp[exec]at hp⟩|n+1,hcall=>by
  obtain⟨ih1,ih2⟩:=qi7 hb hd n (fun m hm=>hcall m (by omega));have loops:∀(f:FuncId)(k:Nat)(c:Code)(s s1:St)(r:Ex),exec E f k (n+1) (.loop c) s=some (r,s1)->∀(X:Cx)(a:Act)(w:World),k<=X.mu.length->q5w check f a.tmps.size c=true->Rel E X s a w->LoopWp E.P c (EndOk E k X w a.tmps.size r s1) a w:=by intro f k c s s1 r hp X a w hkx hok h;simp only[exec]at hp;refine LoopWp.round ?_;cases hc:exec E f k n c s with|none=>grind|some q=>obtain⟨r1,s2⟩:=q;refine wp_mono (ih1 f k c s s2 r1 hc X a w hkx hok h) ?_;rintro e a' w'⟨rfl,haft⟩;rw[hc]at hp;cases r1 with|normal=>simp only at hp;obtain⟨hsz,X',hm,hl,hE,hR⟩:=haft.endRound h.gdom h.mu (by rw[<-h.mu];omega);show LoopWp E.P c _ a' w';have:=ih2 f k c _ s1 r hp X' a' w' (by omega) (by grind) hR;intro b k cs;obtain⟨e2,a2,w2,⟨he,h2⟩,harr⟩:=this b k cs;rw[hsz]at h2;exact⟨e2,a2,w2,⟨he,AfterK.trans h.gdom hm hl hE h2⟩,harr⟩|exit id=>simp only[sI,pI]at hp;obtain⟨rfl,rfl⟩:=hp;exact⟨rfl,haft⟩|ret=>simp only[sI,pI]at hp;obtain⟨rfl,rfl⟩:=hp;exact⟨rfl,haft⟩
  refine⟨fun f k c s s1 r hp X a w hkx hok h=>?_,loops⟩;have triv:AfterK E k X w a.tmps.size s a w:=⟨rfl,X,rfl,Nat.le_refl _,Ext.refl X w,h⟩;cases c with
  |skip=>simp only[exec,sI,pI]at hp;obtain⟨rfl,rfl⟩:=hp;exact wp_skip ⟨rfl,triv⟩|label l=>simp only[exec,sI,pI]at hp;obtain⟨rfl,rfl⟩:=hp;exact wp_label ⟨rfl,triv⟩|exit id=>simp only[exec,sI,pI]at hp;obtain⟨rfl,rfl⟩:=hp;exact wp_exit ⟨rfl,triv⟩|ret=>simp only[exec,sI,pI]at hp;obtain⟨rfl,rfl⟩:=hp;exact wp_ret ⟨rfl,triv⟩|region id ops draw=>
   simp only[q5w,aT]at hok;obtain⟨hds,hdr⟩:=hok;have hds':∀o∈ops,∀t,o.dst=some t->t<a.tmps.size:=fun o ho t ht=>by have:=Array.all_eq_true_iff_forall_mem.1 hds o ho;grind
   rw[q4n]at hp;cases draw with
   |false=>simp only[fT,if_false]at hp;cases hr:runOps E f {draws:=false,mode:=E.an.mode f id} ops n (q5i E f ops s).1 (q5i E f ops s).2 with|none=>grind|some s2=>simp only[hr,mS,sI,pI]at hp;obtain⟨rfl,rfl⟩:=hp;refine wp_region ?_;rw[List.range_eq_range',<-Array.length_toList];exact qqp (fun m hm=>hcall m (by omega)) hb (fun o ho t ht=>hds' o (by grind) t ht) hr h _ (fun a' w' haft=>⟨rfl,(haft.clear _).weak hkx⟩)
   |true=>
    simp only[if_true]at hp;have hfr:q9d E.an f ops s=true:=by grind
    simp only[hfr,Bool.true_eq_false,if_false]at hp;cases hr:agree ((E.an.order f id).map fun l=>(runOps E f (q3k E.an f id ops) ops n (q0e ops l) s).map (clr E f id))with|none=>grind|some s2=>simp only[hr,sI,pI]at hp;obtain⟨rfl,rfl⟩:=hp;refine wp_mono (hd.1 n (fun m hm=>hcall m (by omega)) f id ops s s2 (by simp_all) hfr hr X a w h hds' (fun a' w'=>After E X w a.tmps.size s2 a' w') (fun a' w' haft=>haft)) ?_;rintro e a' w'⟨rfl,haft⟩;exact⟨rfl,haft.weak hkx⟩
  |seq x y=>simp only[q5w,aT]at hok;simp only[exec]at hp;refine wp_seq ?_;cases ht:twoOf E.an f x with
   |some q=>
    obtain⟨id,ops,l1,l2⟩:=q;rw[ht]at hp;simp only at hp;obtain⟨rfl,hord,hm0⟩:=y11 ht;have hx:=hok.1;simp only[q5w,aT]at hx;obtain⟨hds,hdr⟩:=hx;have hds':∀o∈ops,∀t,o.dst=some t->t<a.tmps.size:=fun o ho t ht=>by have:=Array.all_eq_true_iff_forall_mem.1 hds o ho;simpa[ht]using this
    split at hp
    .rename_i t1 t2 h1 h2;obtain⟨q1,q2,e1,e2,e3,e4⟩:=qpz hp;refine wp_mono (hd.2 n (fun m hm=>hcall m (by omega)) f id ops l1 l2 s t1 t2 (by simpa using hdr) hord hm0 h1 h2 X a w h hds' (fun a' w'=>After E X w a.tmps.size {t1 with env:=q59 t1.env (E.an.clear f id)} a' w'\/After E X w a.tmps.size {t2 with env:=q59 t2.env (E.an.clear f id)} a' w') (fun a' w' haft=>haft.imp (fun g=>g.clear _) (fun g=>g.clear _))) ?_;rintro e a' w'⟨rfl,haft⟩;show y.wp E.P _ a' w';have key:∀sx qx,exec E f k n y sx=some (r,qx)->trim s.heap.length qx=s1->After E X w a.tmps.size sx a' w'->y.wp E.P (EndOk E k X w a.tmps.size r s1) a' w':=fun sx qx hex htr haf=>by obtain⟨hsz,X',hm,hl,hE,hR⟩:=haf.weak hkx;refine wp_mono (ih1 f k y sx qx r hex X' a' w' (by omega) (by rw[hsz];exact hok.2) hR) ?_;rintro e2 a2 w2⟨he,h2⟩;rw[hsz]at h2;refine⟨he,?_⟩;rw[<-htr];exact(AfterK.trans h.gdom hm hl hE h2).trim h.gdom h.mu (by rw[<-h.mu];exact hkx)
     rcases haft with g|g;·exact key _ _ e1 e3 g
     .exact key _ _ e2 e4 g
    simp_all|none=>rw[ht]at hp;simp only at hp;cases hc:exec E f k n x s with|none=>grind|some q=>obtain⟨r1,s2⟩:=q;refine wp_mono (ih1 f k x s s2 r1 hc X a w hkx hok.1 h) ?_;rintro e a' w'⟨rfl,haft⟩;rw[hc]at hp;cases r1 with|normal=>simp only at hp;obtain⟨hsz,X',hm,hl,hE,hR⟩:=haft;show y.wp E.P _ a' w';refine wp_mono (ih1 f k y s2 s1 r hp X' a' w' (by omega) (by grind) hR) ?_;rintro e2 a2 w2⟨he,h2⟩;rw[hsz]at h2;exact⟨he,AfterK.trans h.gdom hm hl hE h2⟩|exit id=>simp only[sI,pI]at hp;obtain⟨rfl,rfl⟩:=hp;exact⟨rfl,haft⟩|ret=>simp only[sI,pI]at hp;obtain⟨rfl,rfl⟩:=hp;exact⟨rfl,haft⟩
  |cond x c1 c2=>
   simp only[q5w,aT]at hok;simp only[exec]at hp;split at hp;·rename_i t hx;exact wp_cond (h.evv hx) (ih1 f k _ s s1 r hp X a w hkx (by cases t<;>simp[hok]) h)
   grind|block id b=>simp only[q5w]at hok;simp only[exec]at hp;refine wp_block ?_;cases hc:exec E f k n b s with|none=>grind|some q=>obtain⟨r1,s2⟩:=q;refine wp_mono (ih1 f k b s s2 r1 hc X a w hkx hok h) ?_;rintro e a' w'⟨rfl,haft⟩;rw[hc]at hp;cases r1 with
    |normal=>simp only[sI,pI]at hp;obtain⟨rfl,rfl⟩:=hp;exact⟨rfl,haft.trim h.gdom h.mu (by rw[<-h.mu];omega)⟩|exit id'=>
     simp only at hp;split at hp;·rename_i hid;simp only[sI,pI]at hp;obtain⟨rfl,rfl⟩:=hp;simp only[y2p,Exit.inBlock,hid,if_true];exact⟨rfl,haft.trim h.gdom h.mu (by rw[<-h.mu];omega)⟩
     .rename_i hid;simp only[sI,pI]at hp;obtain⟨rfl,rfl⟩:=hp;simp only[y2p,Exit.inBlock,hid,if_false];exact⟨rfl,haft⟩|ret=>simp only[sI,pI]at hp;obtain⟨rfl,rfl⟩:=hp;exact⟨rfl,haft⟩
  |loop b=>exact LoopWp.start (loops f k b s s1 r hp X a w hkx (by simpa only[q5w]using hok) h)|_=>simp[exec]at hp
end Go.Ab

namespace Go.Ab
variable {objs : List Nat} {o : Nat}
theorem qip:∀(l seen:List Nat)(x:Nat),x∈seen->x∈q4q seen l|[],_,_,h=>h|o::r,seen,x,h=>by simp only[q4q];refine qip r _ x ?_;grind
theorem qin:∀(l seen:List Nat)(x:Nat),x∈l->x∈q4q seen l
 |o::r,seen,x,h=>by
  simp only[q4q];rcases List.mem_cons.1 h with rfl|h;·refine qip r _ x ?_;grind
  .exact qin r _ x h
theorem qp3:∀(l seen:List Nat),seen.length<=(q4q seen l).length|[],_=>Nat.le_refl _|o::r,seen=>by simp only[q4q];refine Nat.le_trans ?_ (qp3 r _);split<;>simp
theorem qsi:∀(l seen:List Nat),(q4q seen l).length=seen.length->q4q seen l=seen
 |[],_,_=>rfl|o::r,seen,h=>by
  simp only[q4q]at h⊢;split;·rename_i hc;rw[if_pos hc]at h;exact qsi r seen h
  .rename_i hc;rw[if_neg hc]at h;have:=qp3 r (seen++[o]);grind
theorem qbe:∀(l seen:List Nat),seen.Nodup->(q4q seen l).Nodup|[],_,h=>h|o::r,seen,h=>by simp only[q4q];refine qbe r _ ?_;grind
theorem qpe{h:Heap}:∀(n:Nat){seen objs:List Nat},reach h n seen=some objs->seen.Nodup->objs.Nodup/\(∀x∈seen,x∈objs)/\∀o∈objs,∀cs,h[o]?=some cs->∀c∈cs,∀p∈q05 c,p∈objs
 |0,seen,objs,hr,_=>by simp[reach]at hr|n+1,seen,objs,hr,hn=>by
  simp only[reach]at hr;split at hr;·rename_i hlen;cases hr;refine⟨hn,fun x hx=>hx,fun o ho cs hcs c hc p hp=>?_⟩;have:=qin (seen.flatMap fun o=>((h[o]?).getD []).flatMap q05) seen p (List.mem_flatMap.2 ⟨o,ho,by grind⟩);rwa [qsi _ _ hlen]at this
  .obtain⟨h1,h2,h3⟩:=qpe n hr (qbe _ _ hn);exact⟨h1,fun x hx=>h2 x (qip _ _ x hx),h3⟩
theorem q82{h:Heap}:∀{l:List Nat}{hs:Heap},q4e h l=some hs->hs.length=l.length/\∀(i:Nat)o,l[i]?=some o->∃cs,h[o]?=some cs/\hs[i]?=some cs|[],hs,hp=>by simp[q4e]at hp;simp_all|o::r,hs,hp=>by simp only[q4e]at hp;cases h1:h[o]? with|none=>simp_all|some cs=>cases h2:q4e h r with|none=>simp_all|some hs'=>simp only[h1,h2,sI]at hp;subst hp;obtain⟨h3,h4⟩:=q82 h2;grind
theorem y9i(h:o∈objs):objs[objs.idxOf o]?=some o:=by grind
theorem yct(hn:objs.Nodup){i:Nat}(h:objs[i]?=some o):objs.idxOf o=i:=by grind
theorem q45:∀(objs:List Nat)(h hb:Heap),(q25 h objs hb).length=h.length|[],h,hb=>by cases hb<;>rfl|o::os,h,[]=>rfl|o::os,h,cs::r=>by simp only[q25];rw[q45 os];simp
theorem q70:∀(objs:List Nat)(h hb:Heap)(o:Nat),o∉objs->(q25 h objs hb)[o]?=h[o]?|[],h,hb,o,_=>by cases hb<;>rfl|o'::os,h,[],o,_=>rfl|o'::os,h,cs::r,o,hn=>by simp only[q25];rw[q70 os _ r o (fun hm=>hn (List.mem_cons_of_mem _ hm))];grind
theorem qjm:∀(objs:List Nat)(h hb:Heap)(i o:Nat),objs.Nodup->objs[i]?=some o->o<h.length->i<hb.length->(q25 h objs hb)[o]?=hb[i]?|[],h,hb,i,o,_,hi,_,_=>by grind|o'::os,h,[],i,o,_,_,_,hl=>by grind|o'::os,h,cs::r,i,o,hn,hi,ho,hl=>by simp only[q25];obtain⟨hn1,hn2⟩:=List.nodup_cons.1 hn;cases i with|zero=>simp at hi;subst hi;rw[q70 os _ r _ hn1];grind|succ i=>rw[qjm os _ r i o hn2 (by simp_all) (by simp_all) (by simp_all)];simp
end Go.Ab

namespace Go.Ab
variable {l : Loc} {c v : AV} {d : D} {k m : Nat} {val : Value} {fn : Func} {hp : Heap} {P : Program} {vs : List AV}
variable {E : Env0} {X : Cx} {s : St} {a : Act} {w : World}
def HRel(E:Env0)(X:Cx)(h:Heap)(w:World):Prop:=Rel E X {env:=[],heap:=h} {tmps:=#[],defers:=[]} w
def φout(m:Nat):Loc->Option Loc|.blk o=>if o<m then some (.blk o)else none|.cell o j=>if o<m then some (.cell o j)else none|_=>none
def Cx.out(X:Cx)(m:Nat):Cx:={X.remap (φout m)with mu:=X.mu.take m}
theorem RVl.frozenφ{φ:Loc->Option Loc}{v:Value}(hφ:φ l=none)(hamb:∀b l k,X.G b=some (l,k)->∀o,X.amb b o)(h:RVl w X l c v)(hf:q03 c=some d):Rep w (X.remap φ).imm d v:=by cases c with|d x=>simp[q03]at hf;subst hf;exact(Ext.remap X w φ).rep h|own xs lt=>simp[q03]at hf;subst hf;exact OwnOk.frozen hφ hamb h|_=>simp[q03]at hf
theorem qrg(c:AV):renAV (fun o=>o) c=c:=by cases c with|fn f cs=>simp only[renAV];simp|_=>rfl
theorem q60(X:Cx)(w:World)(m:Nat):Ext X w (X.out m) w:=⟨rfl,Nat.le_refl _,rfl,rfl,rfl,(Ext.remap X w (φout m)).free,(Ext.remap X w (φout m)).own⟩
theorem RVl.out{v:Value}(hp:∀o∈q05 c,o<m)(hl:c.isOwn=true->φout m l=some l)(h:RVl w X l c v):RVl w (X.out m) l c v:=by
 have hm:∀o∈q05 c,∀b,X.mu[o]?=some b->(X.out m).mu[o]?=some b:=by intro o ho b hb;show(X.mu.take m)[o]?=some b;simp_all
 by_cases ho:c.isOwn=true;·rw[<-qrg c];exact RVl.ren (fun d u hr=>(q60 X w m).rep hr) (fun b o u h1 h2=>(q60 X w m).point h1 h2) hm (fun _ b k e=>⟨by show(X.remap (φout m)).G b=_;rw[Cx.remap_some e,hl ho];rfl,rfl⟩) h
 .rw[<-qrg c];have h':RVl w {X with G:=X.G} (.res 0) c v:=RVl.copy (by simp_all) h;cases c with|own xs lt=>simp[AV.isOwn]at ho|undef=>trivial|skipped=>exact h|d x=>exact(q60 X w m).rep h|ptr o off=>obtain⟨b,hb,hv⟩:=h;exact⟨b,hm o (by simp[q05]) _ hb,hv⟩|ref o=>exact⟨hm o (by simp[q05]) _ h.1,h.2⟩|view cs=>obtain⟨b,off,hv,hh⟩:=h;exact⟨b,off,hv,fun j c hj=>let⟨u,h1,h2,h3⟩:=hh j c hj;⟨u,((q60 X w m).point h1 h2).1,((q60 X w m).point h1 h2).2,(q60 X w m).rep h3⟩⟩|fn f caps=>rw[qrg];obtain⟨vs,hv,hn,hh⟩:=h;exact⟨vs,hv,hn,fun j o a hj=>let⟨b,hb,hu⟩:=hh j o a hj;⟨b,hm o (by simp only[q05];grind) _ hb,hu⟩⟩|loc p=>exact h|elt p i off=>exact h|seg p i off=>exact h|agg cs=>exact h|tup cs=>exact h
theorem Rel.outH(h:Rel E X s a w)(_:m<=s.heap.length)(hp:∀o cs,o<m->s.heap[o]?=some cs->∀c∈cs,∀p∈q05 c,p<m):HRel E (X.out m) (s.heap.take m) w:=by
 refine⟨fun t=>trivial,fun t ht=>?_,?_,fun o cs hcs=>?_,fun b l k e=>?_,h.amb,fun b l k e=>?_,fun g cs hg j c hj=>?_,rfl⟩;·obtain⟨v,hv,hne⟩:=ht;exact absurd hv.symm hne
 .show(X.mu.take m).length=(s.heap.take m).length;simp[h.mu]
 .have hlt:o<m:=by grind
  rw[List.getElem?_take,if_pos hlt]at hcs;rcases h.heap o cs hcs with⟨b,cur,e,g1,g2,g3,g4,g5⟩|⟨v,c,g1,rfl,g2⟩
  .refine .inl ⟨b,cur,e,?_,?_,g3,g4,fun j c hj=>⟨RVl.out (fun p hpp=>hp o cs hlt hcs c (List.mem_of_getElem? hj) p hpp) (fun _=>by simp[φout,hlt]) (g5 j c hj).1,trivial⟩⟩;·show(X.mu.take m)[o]?=some (.blk b);simp_all
   .show(X.remap (φout m)).G b=_;rw[Cx.remap_some g2];simp[φout,hlt]
  .refine .inr ⟨v,c,?_,rfl,RVl.out (fun p hpp=>hp o [c] hlt hcs c (by simp) p hpp) (fun _=>by simp[φout,hlt]) g2⟩;show(X.mu.take m)[o]?=some (.head v);simp_all
 .have e':(X.remap (φout m)).G b=some (l,k):=e;simp only[Cx.remap]at e';split at e';·rename_i l0 k0 h0;exact h.gdom b l0 k0 h0
  simp_all
 .have e':(X.remap (φout m)).G b=some (l,k):=e;simp only[Cx.remap]at e';split at e';·rename_i l0 k0 h0;exact h.oamb b l0 k0 h0
  simp_all
 .obtain⟨u,h1,h2,h3⟩:=h.glob g cs hg j c hj;exact⟨u,((q60 X w m).point h1 h2).1,((q60 X w m).point h1 h2).2,(q60 X w m).rep h3⟩
theorem qoq(h:Rel E X s a w){x:ResultVar}(hr:q55 E.P s x=some v)(hx:q7w s m x=true\/qhl x=true)(hp:∀o∈q05 v,o<m)(j:Nat):∃val,(match x with|.tmp t=>(pure (a.tmps.getD t undef):Sem Value)|.cell b t=>do loadVar t (<-asAddr (a.tmps.getD b undef))).run E.P w=.ok val w/\v.isOwn=false/\RVl w (X.out m) (.res j) v val:=by cases x with
 |tmp t=>
  refine⟨a.tmps.getD t undef,rfl,?_⟩;have ht:=h.env t;simp only[q55]at hr;generalize get s.env t=c at ht hr;have leafd:∀{d:D},Rep w (X.remap (φout m)).imm d (a.tmps.getD t undef)->v=.d d->v.isOwn=false/\RVl w (X.out m) (.res j) v (a.tmps.getD t undef):=by rintro d hd rfl;exact⟨rfl,hd⟩
  cases c with|ptr o off=>simp only[outOf,sI]at hr;subst hr;exact⟨rfl,RVl.out hp (by simp[AV.isOwn]) (RVl.copy (l:=.slot t 0) rfl ht)⟩|fn f cs=>simp only[outOf,sI]at hr;subst hr;exact⟨rfl,RVl.out hp (by simp[AV.isOwn]) (RVl.copy (l:=.slot t 0) rfl ht)⟩|ref o=>simp only[outOf,sI]at hr;subst hr;exact⟨rfl,RVl.out hp (by simp[AV.isOwn]) (RVl.copy (l:=.slot t 0) rfl ht)⟩|d x=>simp[outOf,q4i,q03]at hr;subst hr;exact leafd ((q60 X w m).rep ht) rfl|own xs l=>simp[outOf,q4i,q03]at hr;subst hr;exact leafd (OwnOk.frozen (l:=.slot t 0) rfl h.oamb ht) rfl|agg cs=>
   simp only[outOf,q4i,Option.map_eq_some_iff]at hr;obtain⟨_,⟨ds,hds,rfl⟩,rfl⟩:=hr;obtain⟨vs,hv,hn,hh⟩:=ht;rw[hv];obtain⟨h3,h4⟩:=q2s hds;refine⟨rfl,?_⟩;refine .agg ds vs (by omega) (fun i d hi=>?_);have hlt:i<cs.length:=by grind
   obtain⟨d',hd',hfd⟩:=h4 i cs[i] (by simp);rw[hi]at hd';cases hd';exact RVl.frozenφ (l:=.slot t i) rfl h.oamb (hh i cs[i] (by simp)) hfd|_=>simp[outOf,q4i,q03]at hr
 |cell b t=>
  have hfr:q7w s m (.cell b t)=true:=by rcases hx with e|e;exact e;cases e
  have hptr:∃o off,get s.env b=.ptr o off/\m<=o:=by simp only[q7w]at hfr;generalize get s.env b=c at hfr;cases c with|ptr o off=>exact⟨o,off,rfl,of_decide_eq_true hfr⟩|_=>cases hfr
  obtain⟨o,off,hgb,hge⟩:=hptr;simp only[q55,hgb]at hr;have hb:=h.env b;rw[hgb]at hb;have hno:∀i,φout m (.cell o i)=none:=fun i=>by simp[φout];omega
  obtain⟨bb,hmu,hv⟩:=hb;split at hr
  .rename_i n cs hag hsz hcs;split at hr
   .rename_i hle;simp only[Option.map_eq_some_iff]at hr;obtain⟨ds,hds,rfl⟩:=hr;obtain⟨cur,e,g2,g3,g4,g5⟩:=(h.heap o cs hcs).real hmu;refine⟨.agg (((cur.toList.drop off).take n).toArray),?_,rfl,?_⟩
    .show(do loadVar t (<-asAddr (a.tmps.getD b undef)):Sem Value).run E.P w=_;rw[hv];simp only[asAddr,Sem.run_bind,Sem.run_pure,Result.andThen_ok];refine q1k hag hsz (by simp;omega) (fun i u hi=>?_);rw[cell_of_row w bb (off+i) cur e (0,0) g3];rw[List.getElem?_take]at hi;split at hi;·rw[List.getElem?_drop]at hi;simpa using hi
     .cases hi
    .obtain⟨h3,h4⟩:=q2s hds;refine .agg ds _ (by simp at h3⊢;omega) (fun i d hi=>?_);have hi':i<n:=by have:=(List.getElem?_eq_some_iff.1 hi).1;simp at h3;omega
     have hlt:off+i<cs.length:=by omega
     have hc:((cs.drop off).take n)[i]?=some cs[off+i]:=by rw[List.getElem?_take,if_pos hi',List.getElem?_drop];simp[hlt]
     obtain⟨d',hd',hfd⟩:=h4 i _ hc;rw[hi]at hd';cases hd';have hval:(((cur.toList.drop off).take n).toArray).getD i undef=cur.getD (off+i) undef:=by
      have:off+i<cur.size:=by omega
      simp[Array.getD_eq_getD_getElem?,hi']
     rw[hval];exact RVl.frozenφ (hno _) h.oamb (g5 (off+i) cs[off+i] (by simp[hlt])).1 hfd
   .cases hr
  .rename_i cs hag hcs;split at hr
   .rename_i c hc;obtain⟨cur,e,g2,g3,g4,g5⟩:=(h.heap o cs hcs).real hmu;have hcl:=(g5 off c hc).1;have hlt:off<cur.size:=by rw[g4];exact(List.getElem?_eq_some_iff.1 hc).1
    refine⟨cur.getD off undef,?_,?_⟩;·show(do loadVar t (<-asAddr (a.tmps.getD b undef)):Sem Value).run E.P w=_;rw[hv];simp only[asAddr,Sem.run_bind,Sem.run_pure,Result.andThen_ok];refine q35 hag ?_;rw[cell_of_row w bb off cur e (0,0) g3];simp[Array.getD_eq_getD_getElem?,hlt]
    .cases c with|ptr o' off'=>simp only[outOf,sI]at hr;subst hr;exact⟨rfl,RVl.out hp (by simp[AV.isOwn]) (RVl.copy rfl hcl)⟩|fn f cs=>simp only[outOf,sI]at hr;subst hr;exact⟨rfl,RVl.out hp (by simp[AV.isOwn]) (RVl.copy rfl hcl)⟩|ref o'=>simp only[outOf,sI]at hr;subst hr;exact⟨rfl,RVl.out hp (by simp[AV.isOwn]) (RVl.copy rfl hcl)⟩|d x=>simp[outOf,q4i,q03]at hr;subst hr;exact⟨rfl,(q60 X w m).rep hcl⟩|own xs l=>simp[outOf,q4i,q03]at hr;subst hr;exact⟨rfl,OwnOk.frozen (hno _) h.oamb hcl⟩|agg cs=>exact(hcl:False).elim|_=>simp[outOf,q4i,q03]at hr
   .cases hr
  simp_all
theorem qch(h:Rel E X s a w){m:Nat}{f:ResultVar->Sem Value}(f1:∀t,f (.tmp t)=pure (a.tmps.getD t undef))(f2:∀b t,f (.cell b t)=do loadVar t (<-asAddr (a.tmps.getD b undef))):∀{l:List ResultVar}{vs:List AV}(j:Nat),q1m E.P s l=some vs->(∀x∈l,q7w s m x=true\/qhl x=true)->(∀v∈vs,∀o∈q05 v,o<m)->∃vals:List Value,(l.mapM f).run E.P w=.ok vals w/\vals.length=vs.length/\∀(i:Nat)v,vs[i]?=some v->v.isOwn=false/\RVl w (X.out m) (.res (j+i)) v (vals.getD i undef)|[],vs,j,hr,_,_=>by simp[q1m]at hr;simp_all|x::l,vs,j,hr,hx,hp=>by simp only[q1m]at hr;cases h1:q55 E.P s x with|none=>simp_all|some v=>cases h2:q1m E.P s l with|none=>simp_all|some vs'=>
    simp only[h1,h2,sI]at hr;subst hr;obtain⟨val,g1,g2,g3⟩:=qoq h h1 (hx x (by simp)) (hp v (by simp)) j;obtain⟨vals,g4,g5,g6⟩:=qch h f1 f2 (j+1) h2 (fun y hy=>hx y (by simp[hy])) (fun u hu=>hp u (by simp[hu]));refine⟨val::vals,?_,by simp[g5],fun i u hi=>?_⟩
    .rw[List.mapM_cons];have g1':(f x).run E.P w=.ok val w:=by cases x with|tmp t=>rw[f1];exact g1|cell b t=>rw[f2];exact g1
     simp only[Sem.run_bind];rw[g1'];simp only[Result.andThen_ok];rw[g4];rfl
    grind
theorem q9o(h:Rel E X s a w){v:Value}(hr:RVl w X l c v):∀p∈q05 c,p<s.heap.length:=by intro p hp;rw[<-h.mu];cases c with|ptr o off=>simp[q05]at hp;subst hp;obtain⟨b,hb,_⟩:=hr;grind|ref o=>simp[q05]at hp;subst hp;exact(List.getElem?_eq_some_iff.1 hr.1).1|fn f cs=>simp only[q05,List.mem_map]at hp;obtain⟨⟨o,a0⟩,hm,rfl⟩:=hp;obtain⟨vs,_,_,hh⟩:=hr;obtain⟨j,hj⟩:=List.getElem?_of_mem hm;grind|_=>simp[q05]at hp
theorem yab(h:Rel E X s a w){t:Nat}(hr:outOf (get s.env t)=some v):∀p∈q05 v,p<s.heap.length:=by have ht:=h.env t;generalize get s.env t=c at ht hr;cases c with|ptr o off=>simp only[outOf,sI]at hr;subst hr;exact q9o h (l:=.slot t 0) ht|fn f cs=>simp only[outOf,sI]at hr;subst hr;exact q9o h (l:=.slot t 0) ht|ref o=>simp only[outOf,sI]at hr;subst hr;exact q9o h (l:=.slot t 0) ht|_=>simp only[outOf,Option.map_eq_some_iff]at hr;obtain⟨d,_,rfl⟩:=hr;intro p hp;simp[q05]at hp
theorem y38(h:Rel E X s a w):∀{l:List ResultVar}{vs:List AV},q1m E.P s l=some vs->∀v∈vs,∀p∈q05 v,p<s.heap.length|[],vs,hr=>by simp[q1m]at hr;simp_all|x::l,vs,hr=>by simp only[q1m]at hr;cases h1:q55 E.P s x with|none=>simp_all|some v=>cases h2:q1m E.P s l with|none=>simp_all|some vs'=>
    simp only[h1,h2,sI]at hr;subst hr;intro u hu;rcases List.mem_cons.1 hu with rfl|hu;·cases x with|tmp t=>exact yab h h1|cell b t=>
      simp only[q55]at h1;split at h1
      .rename_i o off _;split at h1
       .split at h1;·simp only[Option.map_eq_some_iff]at h1;obtain⟨d,_,rfl⟩:=h1;intro p hp;simp[q05]at hp
        .cases h1
       .rename_i cs hag hcs;split at h1;·rename_i c hc;obtain⟨_,_,hcl⟩:=(h.heap o cs hcs).get (a:=a) hc;cases c with|ptr o off=>simp only[outOf,sI]at h1;subst h1;exact q9o h hcl|fn f cs=>simp only[outOf,sI]at h1;subst h1;exact q9o h hcl|ref o=>simp only[outOf,sI]at h1;subst h1;exact q9o h hcl|_=>simp only[outOf,Option.map_eq_some_iff]at h1;obtain⟨d,_,rfl⟩:=h1;intro p hp;simp[q05]at hp
        .cases h1
       .cases h1
      simp_all
    .exact y38 h h2 u hu
def ResRel0(w:World)(X:Cx)(v:AV)(val:Value):Prop:=v.isOwn=false/\v.placed=false/\(∀cs,v≠.agg cs)/\RVs w X .res v val
def ResRel(w:World)(X:Cx)(v:AV)(val:Value):Prop:=(ResRel0 w X v val/\qgg v=false)\/∃k u,v=.tup [.ref k,.ref k]/\val=.agg #[u]/\RVl w X (.res 0) (.ref k) u
theorem ResRel0.res(h:ResRel0 w X v val)(hm:qgg v=false):ResRel w X v val:=.inl ⟨h,hm⟩
theorem ResRel.plain(h:ResRel w X v val)(hm:qgg v=false):ResRel0 w X v val:=by
 rcases h with⟨h,_⟩|⟨k,u,rfl,_,_⟩;·exact h
 .cases hm
theorem qwr(h:Rel E X s a w)(hk:k<=s.heap.length)(hl:leave E.P fn k s=some (v,hp)):∃val,(results fn a.tmps).run E.P w=.ok val w/\∃X1,X1.mu=X.mu.take hp.length/\k<=hp.length/\Ext X w X1 w/\HRel E X1 hp w/\ResRel w X1 v val:=by unfold leave at hl;cases hvs:q1m E.P s fn.results.toList with|none=>simp_all|some vs=>
  simp only[hvs]at hl;split at hl;·grind
  rename_i hmk;have hmk:qgg (q0o vs)=false:=by simp_all
  have key:∀m,m<=s.heap.length->k<=m->(∀x∈fn.results.toList,q7w s m x=true\/qhl x=true)->(∀v∈vs,∀o∈q05 v,o<m)->(∀o cs,o<m->s.heap[o]?=some cs->∀c∈cs,∀p∈q05 c,p<m)->∃val,(results fn a.tmps).run E.P w=.ok val w/\∃X1,X1.mu=X.mu.take m/\Ext X w X1 w/\HRel E X1 (s.heap.take m) w/\ResRel0 w X1 (q0o vs) val:=by
   intro m hm hkm hx hp hc;have hres:∃f:ResultVar->Sem Value,(∀t,f (.tmp t)=pure (a.tmps.getD t undef))/\(∀b t,f (.cell b t)=do loadVar t (<-asAddr (a.tmps.getD b undef)))/\results fn a.tmps=(do let vs<-fn.results.mapM f;pure (if h:vs.size=1 then vs[0]else .tuple vs)):=⟨_,fun _=>rfl,fun _ _=>rfl,rfl⟩;obtain⟨f,f1,f2,hres⟩:=hres;obtain⟨vals,g1,g2,g3⟩:=qch h (m:=m) f1 f2 0 hvs hx hp;refine⟨if hs:vals.toArray.size=1 then vals.toArray[0]else .tuple vals.toArray,?_,X.out m,rfl,q60 X w m,h.outH hm hc,?_⟩;·rw[hres,Array.mapM_eq_mapM_toList];simp_all
   .have tup:∀us:List AV,us=vs->(us.length≠1)->ResRel0 w (X.out m) (.tup us) (if hs:vals.toArray.size=1 then vals.toArray[0]else .tuple vals.toArray):=by rintro us rfl hne;refine⟨rfl,rfl,by simp,?_⟩;rw[dif_neg (by simp_all)];exact⟨vals.toArray,rfl,by omega,fun j c hj=>by have:=g3 j c hj;simp_all⟩
    match vs,g2,g3,tup with
    |[],g2,g3,tup=>exact tup [] rfl (by simp)|[v],g2,g3,tup=>
      obtain⟨x,rfl⟩:=List.length_eq_one_iff.1 (show vals.length=1 from g2);obtain⟨h5,h6⟩:=g3 0 v rfl;have h7:RVl w (X.out m) (.res 0) v x:=h6;simp only[List.size_toArray,List.length_cons,List.length_nil,Nat.zero_add,dite_true,List.getElem_toArray,List.getElem_cons_zero];refine⟨h5,?_,?_,qfx h7⟩;·cases v<;>first|rfl|exact(h7:False).elim
      .rintro cs rfl;exact(h7:False).elim|v1::v2::r,g2,g3,tup=>exact tup _ rfl (by simp)
  have hxs:∀(f:ResultVar->Bool),fn.results.toList.all f=true->∀x∈fn.results.toList,f x=true:=fun f hf x hx=>(List.all_eq_true.1 hf) x hx;split at hl
  .rename_i hcl;split at hl
   .rename_i hfr0;have hfr:=(aT _ _▸hfr0).1;simp only[sI,pI]at hl;obtain⟨rfl,rfl⟩:=hl;simp only[List.all_append,aT,List.all_eq_true,dT']at hcl;obtain⟨val,g1,X1,g2,g3,g4,g5⟩:=key k hk (Nat.le_refl _) (fun x hx=>.inl (hxs _ hfr x hx)) (fun v hv o ho=>hcl.1 o (List.mem_flatMap.2 ⟨v,hv,ho⟩)) (fun o cs ho hcs c hc p hp=>hcl.2 p (List.mem_flatMap.2 ⟨cs,List.mem_of_getElem? (by rw[List.getElem?_take,if_pos ho];exact hcs),List.mem_flatMap.2 ⟨c,hc,hp⟩⟩));have hlen:(s.heap.take k).length=k:=by simp;omega
    exact⟨val,g1,X1,by rw[hlen];exact g2,by rw[hlen];exact Nat.le_refl _,g3,g4,.inl ⟨g5,hmk⟩⟩
   grind
  .split at hl
   .rename_i hfr0;have hfr:=(aT _ _▸hfr0).1;simp only[sI,pI]at hl;obtain⟨rfl,rfl⟩:=hl;have hlen:(s.heap.take s.heap.length)=s.heap:=by simp
    obtain⟨val,g1,X1,g2,g3,g4,g5⟩:=key s.heap.length (Nat.le_refl _) hk (fun x hx=>.inr (hxs _ hfr x hx)) (y38 h hvs) (fun o cs ho hcs c hc p hp=>by obtain⟨j,hj⟩:=List.getElem?_of_mem hc;obtain⟨_,_,q5⟩:=(h.heap o cs hcs).get (a:=a) hj;exact q9o h q5 p hp);rw[hlen]at g4;exact⟨val,g1,X1,g2,hk,g3,g4,.inl ⟨g5,hmk⟩⟩
   grind
theorem Rel.toH(h:Rel E X s a w):HRel E X s.heap w:=⟨fun _t=>trivial,fun _t⟨_v,hv,hne⟩=>absurd hv.symm hne,h.mu,h.heap,h.gdom,h.amb,h.oamb,h.glob,rfl⟩
theorem quj(h:Rel E X s a w)(hl:qmk E.P fn k s=some (v,hp)):∃val,(results fn a.tmps).run E.P w=.ok val w/\∃X1,(∃more,X1.mu=X.mu.take k++more)/\Ext X w X1 w/\HRel E X1 hp w/\ResRel w X1 v val:=by
 unfold qmk at hl;split at hl
 .rename_i t hres;split at hl
  .rename_i xs hg;split at hl
   .rename_i hc;simp only[aT,dT']at hc;simp only[sI,pI]at hl;obtain⟨rfl,rfl⟩:=hl;obtain⟨X1,val,hval,hmu1,hE1,hR1,hO1⟩:=h.moveOut (p:=.slot t) (show content s (.slot t)=.own xs false from hg);have hv:a.tmps.getD t undef=val:=by simp only[cval]at hval;simp[Array.getD_eq_getD_getElem?,hval]
    have hR2:=hR1.trimAt (m:=k) hc.2 hc.1;have hO2:OwnOk w (X1.trim k) (.res 0) xs false val:=OwnOk.ext (q1o X1 w k) (fun b k' e=>⟨by show(X1.remap (φtrim k)).G b=_;rw[Cx.remap_some e];rfl,rfl⟩) hO1;obtain⟨X3,hmu3,hE3,hR3⟩:=hR2.toH.newHead (.own xs false) val hO2;refine⟨val,?_,X3,⟨[.head val],?_⟩,Ext.trans h.gdom hE1 (Ext.trans hR1.gdom (q1o X1 w k) hE3),hR3,.inl ⟨⟨rfl,rfl,by simp,?_⟩,rfl⟩⟩;·have hf:∃f:ResultVar->Sem Value,(∀t,f (.tmp t)=pure (a.tmps.getD t undef))/\results fn a.tmps=(do let vs<-fn.results.mapM f;pure (if h:vs.size=1 then vs[0]else .tuple vs)):=⟨_,fun _=>rfl,rfl⟩;obtain⟨f,f1,hfr⟩:=hf;rw[hfr,Array.mapM_eq_mapM_toList,hres];simp[f1,hv]
    .rw[hmu3];show X1.mu.take k++_=_;rw[hmu1]
    .have hmk:X3.mu[k]?=some (.head val):=by
      rw[hmu3];show(X1.mu.take k++[Home.head val])[k]?=_;have:(X1.mu.take k).length=k:=by rw[hmu1,List.length_take,h.mu];omega
      rw[List.getElem?_append_right (by omega),this];simp
     exact⟨hmk,qh3 hO2⟩
   .cases hl
  .cases hl
 .rename_i r t hres;split at hl
  .rename_i o hg ht hn;split at hl
   .rename_i xs hct;split at hl
    .rename_i hc;simp only[aT,dT']at hc;simp only[sI,pI]at hl;obtain⟨rfl,rfl⟩:=hl;obtain⟨b,hb,hev⟩:=h.ptr (x:=.tmp r) hg;obtain⟨X1,val,hval,hmu1,hE1,hR1,hO1⟩:=h.moveOut hct;have hu:w.cell? ⟨b,0,none⟩=some val:=by simpa[cval,hb]using hval
     have hlen:(q0z s.heap o 0 .undef).length=s.heap.length:=by unfold q0z;split<;>simp
     have htk:(q0z s.heap o 0 .undef).take k=s.heap.take k:=by
      unfold q0z;split;·rw[List.take_set_of_le hc.1.2]
      .rfl
     have htr:q2r k (setPlace s (.cell o 0) .undef).heap=true:=by show q2r k (q0z s.heap o 0 .undef)=true;unfold q2r;rw[htk];exact hc.1.1
     have hR2:=hR1.trimAt (m:=k) (by show k<=(q0z s.heap o 0 .undef).length;rw[hlen];exact hc.2) htr;have hO2:OwnOk w (X1.trim k) (.res 0) xs false val:=OwnOk.ext (q1o X1 w k) (fun b k' e=>⟨by show(X1.remap (φtrim k)).G b=_;rw[Cx.remap_some e];rfl,rfl⟩) hO1;obtain⟨X3,hmu3,hE3,hR3⟩:=hR2.toH.newHead (.own xs false) val hO2;have e0:({env:=(setPlace s (.cell o 0) .undef).env,heap:=(setPlace s (.cell o 0) .undef).heap.take k}:St).heap=s.heap.take k:=htk;refine⟨.agg #[val],?_,X3,⟨[.head val],?_⟩,Ext.trans h.gdom hE1 (Ext.trans hR1.gdom (q1o X1 w k) hE3),by rw[<-htk];exact hR3,.inr ⟨k,val,rfl,rfl,?_⟩⟩;·have hf:∃f:ResultVar->Sem Value,(∀b t,f (.cell b t)=do loadVar t (<-asAddr (a.tmps.getD b undef)))/\results fn a.tmps=(do let vs<-fn.results.mapM f;pure (if h:vs.size=1 then vs[0]else .tuple vs)):=⟨_,fun _ _=>rfl,rfl⟩;obtain⟨f,f1,hfr⟩:=hf;have hload:=q1k (P:=E.P) (w:=w) (t:=t) (b:=b) (o:=0) (vs:=[val]) ht hn rfl (fun j v hj=>by cases j with|zero=>simp at hj;subst hj;simpa using hu|succ j=>simp at hj);have hev':a.tmps.getD r undef=.pointer (some ⟨b,0,none⟩):=hev;rw[hfr,Array.mapM_eq_mapM_toList,hres];simp[f1,hev',asAddr,hload]
     .rw[hmu3];show X1.mu.take k++_=_;rw[hmu1]
     .have hmk:X3.mu[k]?=some (.head val):=by
       rw[hmu3];show(X1.mu.take k++[Home.head val])[k]?=_;have:(X1.mu.take k).length=k:=by rw[hmu1,List.length_take,h.mu];omega
       rw[List.getElem?_append_right (by omega),this];simp
      exact⟨hmk,qh3 hO2⟩
    .cases hl
   .cases hl
  .cases hl
 simp_all
theorem qji(h:Rel E X s a w){own:Bool}(hk:k<=s.heap.length)(hl:qbh own E.P fn k s=some (v,hp)):∃val,(results fn a.tmps).run E.P w=.ok val w/\∃X1,(∃more,X1.mu=X.mu.take k++more)/\Ext X w X1 w/\HRel E X1 hp w/\ResRel w X1 v val:=by
 unfold qbh at hl;split at hl;·exact quj h hl
 .obtain⟨val,g1,X1,g2,g3,g4,g5,g6⟩:=qwr h hk hl;refine⟨val,g1,X1,⟨(X.mu.drop k).take (hp.length-k),?_⟩,g4,g5,g6⟩;rw[g2,<-List.take_add];simp_all
theorem qaj{c:Code}{r:Option (AV×Heap)}{q:AV×Heap}(h:q48 P fn c vs hp r=some q):r=some q:=by unfold q48 at h;grind
theorem qre{c c':Code}(hc:q8c P fn c=some c'){r:Option (AV×Heap)}{q:AV×Heap}(h:q48 P fn c vs hp r=some q):∃xs,vs=[.d (.list xs)]/\hp=[]/\(xs=[]->q=(.ref 0,[[.own [] false]])):=by unfold q48 at h;grind
theorem rel0{hv:Value}(hR:HRel E X [] w)(h:Rep w X.imm d hv){a:Act}(ha:a.tmps.getD 0 undef=hv)(h0:0<a.tmps.size)(hd:a.defers=[]):Rel E X {env:=[(0,.d d)],heap:=[]} a w:=by
 refine⟨fun t=>?_,fun t ht=>?_,hR.mu,fun o cs h=>by grind,hR.gdom,hR.amb,hR.oamb,hR.glob,hd⟩
 .show RVe _ _ _ _ _ (get [(0,.d d)] t) _;by_cases e:t=0;·subst e;rw[ha];exact h
  .simp only[get,Ne.symm e,if_false];trivial
 .obtain⟨v,hv,hne⟩:=ht;by_cases e:t=0;·omega
  .have hv':get [(0,.d d)] t=v:=hv;simp only[get,Ne.symm e,if_false]at hv';simp_all
theorem qda{ops:Array Oper}{Q:Exit->Act->World->Prop}{i:Nat}{rest:List Nat}{a:Act}{w:World}{o:Oper}{v:Value}(hi:ops[i]?=some o)(hg:o.guard=none)(hr:(execOp a.eval o).run P w=.ok (.value v) w)(h:wpOps P ops Q rest (a.put o.dst v) w):wpOps P ops Q (i::rest) a w:=by rw[wpOps_cons];unfold wpOp;simp only[hi];rw[if_pos (by simp[Region.wanted,hg])];refine .inl ?_;unfold Oper.wp;rw[hr];exact h
theorem y08{c rest:Code}(hn:q8c P fn c=some rest){check:Nat->Nat->Array Oper->Bool}{f:Nat}{a:Act}{w:World}{Q:Exit->Act->World->Prop}{ad:Option Addr}{n cap:Nat}(hcode:q5w check f a.tmps.size c=true)(h0:a.tmps.getD 0 undef=.slice ad n cap)(_hsz:0<a.tmps.size)(hQ:ad=none->∀a' r,fn.results.toList=[.tmp r]->a'.defers=a.defers->a'.tmps.getD r undef=.slice none 0 0->Q .ret a' w)(hR:∀a',a'.tmps.getD 0 undef=.slice ad n cap->a'.tmps.size=a.tmps.size->a'.defers=a.defers->q5w check f a.tmps.size rest=true->rest.wp P Q a' w):c.wp P Q a w:=by
 unfold q8c at hn;split at hn
 .rename_i i0 os0 i1 os1 tc i2 os2 rest';split at hn
  .rename_i r0 ty0 p0 af0 t1 ty1 p1 af1 t2 ty t3 ty2 ty3 p2 af2 r2 ty4 p3 af3 r e0 e1 e2 e3;split at hn
   .rename_i hc;obtain⟨rfl,rfl,rfl,rfl,c1,c2,c3,c4,c5⟩:=hc;cases hn;simp only[q5w,aT,Bool.not_false,Bool.true_or,and_true]at hcode;obtain⟨k0,⟨k1,k2⟩,k3⟩:=hcode;have b0:r2<a.tmps.size:=by have:=Array.all_eq_true_iff_forall_mem.1 k0 _ (Array.mem_toList_iff.1 (by rw[e0];exact List.mem_singleton.2 rfl));simpa using this
    have b1:t3<a.tmps.size:=by have:=Array.all_eq_true_iff_forall_mem.1 k1 _ (Array.mem_toList_iff.1 (by rw[e1];exact List.mem_cons_self));simpa using this
    have b2:t2<a.tmps.size:=by have:=Array.all_eq_true_iff_forall_mem.1 k1 _ (Array.mem_toList_iff.1 (by rw[e1];exact List.mem_cons_of_mem _ List.mem_cons_self));simpa using this
    obtain⟨el,hel⟩:=Option.isSome_iff_exists.1 c5;have hu:P.underlying ty=some (.slice el):=by
     unfold q1s at hel;split at hel;·rename_i e' he';cases hel;exact he'
     .cases hel
    have hos0:=Array.toList_inj.1 (show os0.toList=(#[_]:Array Oper).toList from e0);have hos1:=Array.toList_inj.1 (show os1.toList=(#[_,_]:Array Oper).toList from e1);have hos2:=Array.toList_inj.1 (show os2.toList=(#[_]:Array Oper).toList from e2);subst hos0 hos1 hos2;refine wp_seq (wp_region ?_);rw[show List.range (#[_]:Array Oper).size=[0]from rfl];refine qda (o:=⟨some r2,.assign (.const (.slice none 0 0)),ty0,p0,af0,none⟩) (v:=.slice none 0 0) rfl rfl (by simp[execOp,Act.eval]) ?_;show(Code.seq _ _).wp P Q _ w;generalize ha1:a.put (some r2) (.slice none 0 0)=a1;have z1:a1.tmps.size=a.tmps.size:=by rw[<-ha1];exact q4z a _ _
    have d1:a1.defers=a.defers:=by rw[<-ha1];rfl
    have g1:∀u,a1.tmps.getD u undef=if r2=u then .slice none 0 0 else a.tmps.getD u undef:=fun u=>by rw[<-ha1];exact q6d a r2 u _ b0
    refine wp_seq (wp_seq (wp_region ?_));rw[show List.range (#[_,_]:Array Oper).size=[0,1]from rfl];have hv1:a1.tmps.getD 0 undef=.slice ad n cap:=by rw[g1,if_neg c1,h0]
    refine qda (o:=⟨some t3,.move (.tmp 0),ty1,p1,af1,none⟩) (v:=.slice ad n cap) rfl rfl (by simp only[execOp,Act.eval,Sem.run_pure,hv1]) ?_;show wpOps P _ _ [1] (a1.put (some t3) _) w;generalize ha2:a1.put (some t3) (.slice ad n cap)=a2;have z2:a2.tmps.size=a.tmps.size:=by rw[<-ha2,q4z,z1]
    have d2:a2.defers=a.defers:=by rw[<-ha2];exact d1
    have g2:∀u,a2.tmps.getD u undef=if t3=u then .slice ad n cap else a1.tmps.getD u undef:=fun u=>by rw[<-ha2];exact q6d a1 t3 u _ (by rw[z1];exact b1)
    refine qda (o:=⟨some t2,.binOp .eql ty (.tmp t3) (.const (.slice none 0 0)) ty2,ty3,p2,af2,none⟩) (v:=.bool ad.isNone) rfl rfl ?_ ?_;·simp only[execOp,Act.eval,Sem.run_bind,show a2.tmps.getD t3 undef=.slice ad n cap by rw[g2,if_pos rfl]];rw[show eqGuard .eql ty (.tmp t3) (.const (.slice none 0 0)) (.slice ad n cap) (.slice none 0 0)=pure ()from rfl,Sem.run_pure,Result.andThen_ok,Lib.run_eql_slice_nil w ty el ad n cap 0 0 hu];rfl
    show(Code.cond _ _ _).wp P _ (a2.put (some t2) _) w;generalize ha3:a2.put (some t2) (.bool ad.isNone)=a3;have z3:a3.tmps.size=a.tmps.size:=by rw[<-ha3,q4z,z2]
    have d3:a3.defers=a.defers:=by rw[<-ha3];exact d2
    have g3:∀u,a3.tmps.getD u undef=if t2=u then .bool ad.isNone else a2.tmps.getD u undef:=fun u=>by rw[<-ha3];exact q6d a2 t2 u _ (by rw[z2];exact b2)
    refine wp_cond (t:=ad.isNone) (by simp only[Act.eval];rw[g3,if_pos rfl]) ?_;cases had:ad with|none=>simp only[Option.isNone_none,if_true];refine wp_seq (wp_region ?_);rw[show List.range (#[_]:Array Oper).size=[0]from rfl];refine qda (o:=⟨some r2,.assign (.const (.slice none 0 0)),ty4,p3,af3,none⟩) (v:=.slice none 0 0) rfl rfl (by simp[execOp,Act.eval]) ?_;show Code.ret.wp P _ _ w;refine wp_ret ?_;exact hQ had _ r2 e3 d3 (by rw[q6d _ _ _ _ (by rw[z3];exact b0),if_pos rfl])|some ad'=>simp only[Option.isNone_some,fT,if_false];refine wp_skip ?_;refine hR a3 ?_ z3 d3 k3;rw[g3,if_neg c3,g2,if_neg c2,hv1]
   .cases hn
  .cases hn
 simp_all
theorem y9h(hR:HRel E X [] w){a':Act}{r:Nat}(hr:fn.results.toList=[.tmp r])(hv:a'.tmps.getD r undef=.slice none 0 0):∃val,(results fn a'.tmps).run E.P w=.ok val w/\∃X1,(∃more,X1.mu=X.mu++more)/\Ext X w X1 w/\HRel E X1 [[.own [] false]] w/\ResRel w X1 (.ref 0) val:=by
 obtain⟨X3,hmu3,hE3,hR3⟩:=hR.newHead (.own [] false) (.slice none 0 0) (.inl ⟨rfl,none,rfl⟩);refine⟨.slice none 0 0,?_,X3,⟨_,hmu3⟩,hE3,hR3,.inl ⟨⟨rfl,rfl,by simp,?_⟩,rfl⟩⟩;·have hf:∃f:ResultVar->Sem Value,(∀t,f (.tmp t)=pure (a'.tmps.getD t undef))/\results fn a'.tmps=(do let vs<-fn.results.mapM f;pure (if h:vs.size=1 then vs[0]else .tuple vs)):=⟨_,fun _=>rfl,rfl⟩;obtain⟨f,f1,hfr⟩:=hf;rw[hfr,Array.mapM_eq_mapM_toList,hr];simp_all
 .have hmk:X3.mu[0]?=some (.head (.slice none 0 0)):=by rw[hmu3];have:X.mu=[]:=List.length_eq_zero_iff.1 hR.mu;simp_all
  exact⟨hmk,none,0,0,rfl⟩
end Go.Ab
