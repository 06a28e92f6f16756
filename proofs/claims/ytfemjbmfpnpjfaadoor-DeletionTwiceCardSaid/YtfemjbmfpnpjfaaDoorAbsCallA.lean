/- A call, seen from where it is made. -/
import Derived.Test.YtfemjbmfpnpjfaaDoorAbsCall
namespace Go.Ab

variable {E : Env0} {X : Cx} {s : St} {a : Act} {w : World} {objs : List Nat}

theorem into_amb (h : Rel E X s a w) {b o : Nat} (hi : (X.into w objs).amb b o) : X.amb b o := by
  rcases hi with h1 | h1 | h1
  · exact h1.1
  · exact h.amb b o h1
  · obtain ⟨⟨l, k⟩, hl⟩ := Option.isSome_iff_exists.1 h1
    obtain ⟨l0, h0, _⟩ := remap_back hl
    exact h.oamb b l0 k h0 o

/-- Everything that the walk out of a call needs. -/
structure Out (E : Env0) (X : Cx) (s : St) (a : Act) (w : World) (objs : List Nat) (X1 : Cx) (h' : Heap) (w1 : World) : Prop where
  rel : Rel E X s a w
  nodup : objs.Nodup
  there : ∀ o ∈ objs, o < s.heap.length
  mu : ∃ more, X1.mu = (X.into w objs).mu ++ more
  ext : Ext (X.into w objs) w X1 w1
  h : HRel E X1 h' w1

variable {X1 : Cx} {h' : Heap} {w1 : World}

theorem Out.len (hO : Out E X s a w objs X1 h' w1) : X1.mu.length = h'.length ∧ objs.length ≤ h'.length := by
  have e : X1.mu.length = h'.length := hO.h.mu
  obtain ⟨more, hm⟩ := hO.mu
  refine ⟨e, ?_⟩
  rw [← e, hm, List.length_append]
  show objs.length ≤ (objs.map _).length + _
  simp

theorem Out.keep {back : Nat → Nat} {b : Nat} (hb : b < w.heap.size) (hg : (X.into w objs).G b = none) : (X.outOf w objs back X1).G b = X.G b := by
  simp [Cx.outOf, hb, hg]

theorem Out.take (hO : Out E X s a w objs X1 h' w1) {back : Nat → Nat} {b : Nat} {l : Loc} {k : Nat} (hg : X1.G b = some (l, k)) : (X.outOf w objs back X1).G b = (labOut back l).map fun l' => (l', k) := by
  have hc : (decide (b < w.heap.size) && ((X.into w objs).G b).isNone) = false := by
    cases hd : (decide (b < w.heap.size) && ((X.into w objs).G b).isNone) with
    | false => rfl
    | true =>
      simp only [Bool.and_eq_true, decide_eq_true_eq, Option.isNone_iff_eq_none] at hd
      have := (hO.ext.free b hd.1 hd.2).1
      rw [hg] at this; cases this
  show (if _ then _ else _) = _
  rw [hc]
  simp only [Bool.false_eq_true, if_false]
  exact Cx.remap_some hg

theorem Out.cases {back : Nat → Nat} {b : Nat} {l : Loc} {k : Nat} (hg : (X.outOf w objs back X1).G b = some (l, k)) :
    (b < w.heap.size ∧ (X.into w objs).G b = none ∧ X.G b = some (l, k)) ∨ ∃ l0, X1.G b = some (l0, k) ∧ labOut back l0 = some l := by
  have hg' : (if decide (b < w.heap.size) && ((X.into w objs).G b).isNone then X.G b else (X1.remap (labOut back)).G b) = some (l, k) := hg
  split at hg'
  · rename_i hd
    simp only [Bool.and_eq_true, decide_eq_true_eq, Option.isNone_iff_eq_none] at hd
    exact .inl ⟨hd.1, hd.2, hg'⟩
  · exact .inr (remap_back hg')

theorem Out.amb1 (hO : Out E X s a w objs X1 h' w1) {b o : Nat} (h : X1.amb b o) : X.amb b o := into_amb hO.rel (by rw [← hO.ext.amb]; exact h)

theorem Out.imm (hO : Out E X s a w objs X1 h' w1) {back : Nat → Nat} {b o : Nat} (h : X1.imm b o) : (X.outOf w objs back X1).imm b o := by
  refine ⟨hO.amb1 h.1, fun l k hg => ?_⟩
  rcases Out.cases hg with ⟨h1, h2, h3⟩ | ⟨l0, h1, _⟩
  · have ha : (X.into w objs).amb b o := by rw [← hO.ext.amb]; exact h.1
    rcases ha with h4 | h4 | h4
    · exact h4.2 l k h3
    · omega
    · have h2' : (X.remap (labIn objs)).G b = none := h2
      rw [h2'] at h4; cases h4
  · exact h.2 l0 k h1

theorem Out.rep (hO : Out E X s a w objs X1 h' w1) {back : Nat → Nat} {d : D} {v : Value} (h : Rep w1 X1.imm d v) : Rep w1 (X.outOf w objs back X1).imm d v := h.mono fun _ _ _ h1 h2 => ⟨h1, hO.imm h2⟩

theorem Out.extC (hO : Out E X s a w objs X1 h' w1) (back : Nat → Nat) : Ext X w (X.outOf w objs back X1) w1 := by
  refine ⟨rfl, hO.ext.size, hO.ext.os, hO.ext.tape, hO.ext.output, fun b hb hg => ?_, fun b l k hg => ?_⟩
  · have hn : (X.into w objs).G b = none := by
      show (X.remap (labIn objs)).G b = none
      simp [Cx.remap, hg]
    exact ⟨by rw [Out.keep hb hn]; exact hg, (hO.ext.free b hb hn).2⟩
  · have hb := hO.rel.gdom b l k hg
    cases hn : (X.into w objs).G b with
    | none =>
      refine ⟨fun l' k' e => ?_, fun o _ => cell?_of_heap (hO.ext.free b hb hn).2 o⟩
      rw [Out.keep hb hn, hg] at e
      simp only [Option.some.injEq, Prod.mk.injEq] at e
      omega
    | some y =>
      obtain ⟨l', k'⟩ := y
      obtain ⟨l0, h0, _⟩ := remap_back (X := X) (φ := labIn objs) hn
      rw [hg] at h0
      cases h0
      obtain ⟨g1, g2⟩ := hO.ext.own b l' k hn
      refine ⟨fun l2 k2 e => ?_, g2⟩
      rcases Out.cases e with ⟨_, h2, _⟩ | ⟨l3, h3, _⟩
      · rw [hn] at h2; cases h2
      · exact g1 l3 k2 h3

/-- What the callee never saw is as it was. -/
theorem Out.unseen (hO : Out E X s a w objs X1 h' w1) {back : Nat → Nat} {b : Nat} {l : Loc} {k : Nat} (hg : X.G b = some (l, k)) (hl : labIn objs l = none) : (X.outOf w objs back X1).G b = some (l, k) ∧ w1.heap[b]? = w.heap[b]? := by
  have hb := hO.rel.gdom b l k hg
  have hn : (X.into w objs).G b = none := by
    show (X.remap (labIn objs)).G b = none
    rw [Cx.remap_some hg, hl]; rfl
  exact ⟨by rw [Out.keep hb hn]; exact hg, (hO.ext.free b hb hn).2⟩

theorem Out.muKeep {back : Nat → Nat} {o b : Nat} (h : X.mu[o]? = some b) : (X.outOf w objs back X1).mu[o]? = some b := by
  show (X.mu ++ _)[o]? = some b
  rw [List.getElem?_append_left (List.getElem?_eq_some_iff.1 h).1]; exact h

theorem Out.muBack (hO : Out E X s a w objs X1 h' w1) {p b : Nat} (hb : X1.mu[p]? = some b) : (X.outOf w objs (backTo objs s.heap.length) X1).mu[backTo objs s.heap.length p]? = some b := by
  obtain ⟨more, hm⟩ := hO.mu
  have hlen : (X.into w objs).mu.length = objs.length := by show (objs.map _).length = _; simp
  by_cases hp : p < objs.length
  · have ho : objs[p]? = some objs[p] := by simp [hp]
    have e : backTo objs s.heap.length p = objs[p] := by simp [backTo, ho]
    rw [e]
    refine Out.muKeep ?_
    rw [hm, List.getElem?_append_left (by rw [hlen]; exact hp)] at hb
    have hb' : (objs.map fun o => X.mu.getD o 0)[p]? = some b := hb
    rw [List.getElem?_map, ho] at hb'
    simp only [Option.map_some, Option.some.injEq] at hb'
    have hlt : objs[p] < X.mu.length := by rw [hO.rel.mu]; exact hO.there _ (List.getElem_mem hp)
    rw [← hb', List.getElem?_eq_getElem hlt]
    simp [List.getD_eq_getElem?_getD, hlt]
  · have ho : objs[p]? = none := by simp; omega
    have e : backTo objs s.heap.length p = s.heap.length + (p - objs.length) := by simp [backTo, ho]
    rw [e]
    show (X.mu ++ X1.mu.drop objs.length)[_]? = some b
    rw [List.getElem?_append_right (by rw [hO.rel.mu]; omega), hO.rel.mu, List.getElem?_drop]
    rw [show objs.length + (s.heap.length + (p - objs.length) - s.heap.length) = p by omega]
    exact hb

theorem Out.leaf (hO : Out E X s a w objs X1 h' w1) {l l' : Loc} {c : AV} {v : Value} (hl : c.isOwn = true → labOut (backTo objs s.heap.length) l = some l') (h : RVl w1 X1 l c v) : RVl w1 (X.outOf w objs (backTo objs s.heap.length) X1) l' (renAV (backTo objs s.heap.length) c) v :=
  RVl.ren (fun _ _ hr => hO.rep hr) (fun _ _ _ h1 h2 => ⟨h1, hO.imm h2⟩) (fun _ _ _ hb => hO.muBack hb) (fun ho b k e => ⟨by rw [hO.take e, hl ho]; rfl, rfl⟩) h

theorem backIn_len (hO : Out E X s a w objs X1 h' w1) : (backIn s objs h').heap.length = s.heap.length + (h'.length - objs.length) := by
  simp [backIn, writeBack_len]

theorem backIn_old (hO : Out E X s a w objs X1 h' w1) {o : Nat} (ho : o < s.heap.length) (hn : o ∉ objs) : (backIn s objs h').heap[o]? = s.heap[o]? := by
  simp only [backIn]
  rw [List.getElem?_append_left (by rw [writeBack_len]; exact ho), writeBack_other _ _ _ _ hn]

theorem Out.relC (hO : Out E X s a w objs X1 h' w1) : Rel E (X.outOf w objs (backTo objs s.heap.length) X1) (backIn s objs h') a w1 := by
  have h := hO.rel
  obtain ⟨hl1, hl2⟩ := hO.len
  have hE := hO.extC (backTo objs s.heap.length)
  have hkeep : ∀ (o : Nat) b, X.mu[o]? = some b → (X.outOf w objs (backTo objs s.heap.length) X1).mu[o]? = some b := fun o b hb => Out.muKeep hb
  have hnew := backIn_len hO
  have hown : ∀ u, (content (backIn s objs h') (.slot u)).isOwn = true → content (backIn s objs h') (.slot u) = content s (.slot u) := by
    intro u hu
    show get (killObjs objs s.env) u = get s.env u
    have hu' : (get (killObjs objs s.env) u).isOwn = true := hu
    rw [get_killObjs] at hu' ⊢
    split
    · rename_i hh; rw [if_pos hh] at hu'; cases hu'
    · rfl
  have hcell : ∀ o off, o < s.heap.length → o ∉ objs → content (backIn s objs h') (.cell o off) = content s (.cell o off) := by
    intro o off ho hn
    show cellOf (backIn s objs h').heap o off = cellOf s.heap o off
    simp only [cellOf, backIn_old hO ho hn]
  have hcv : ∀ o off, o < s.heap.length → o ∉ objs → cval (X.outOf w objs (backTo objs s.heap.length) X1) a w1 (.cell o off) = cval X a w (.cell o off) := by
    intro o off ho hn
    obtain ⟨b, cur, e, g1, g2, g3, _⟩ := h.heap o s.heap[o] (by simp [ho])
    simp only [cval, g1, hkeep o b g1]
    exact cell?_of_heap (hO.unseen (back := backTo objs s.heap.length) g2 (by simp [labIn, hn])).2 off
  refine ⟨fun t => ?_, fun t ht => ?_, ?_, fun o cs hcs => ?_, fun b l k e => ?_, fun b o hb => ?_, fun b l k e o => ?_, fun g cs hg j c hj => ?_, h.defers⟩
  · show RVe _ _ _ _ _ (get (killObjs objs s.env) t) _
    rw [get_killObjs]
    split
    · trivial
    · rename_i hh
      have ht := h.env t
      generalize get s.env t = c at ht hh
      cases c with
      | loc p =>
        cases p with
        | slot u => exact ⟨fun o off e => (by cases e), fun ho => ht.2 (by rw [← hown u ho]; exact ho)⟩
        | cell o off =>
          have ho : o < s.heap.length := ht.1 o off rfl
          have hn : o ∉ objs := by simpa [hits, AV.placed, heapAddr] using hh
          exact ⟨fun o' off' e => (by cases e; rw [hnew]; omega), fun hc => by rw [hcv o off ho hn]; exact ht.2 (by rw [← hcell o off ho hn]; exact hc)⟩
      | elt p i off' =>
        cases p with
        | slot u => exact ⟨fun o off e => (by cases e), fun xs l hc => ht.2 xs l (by rw [← hown u (by rw [hc]; rfl)]; exact hc)⟩
        | cell o off =>
          have ho : o < s.heap.length := ht.1 o off rfl
          have hn : o ∉ objs := by simpa [hits, AV.placed, heapAddr] using hh
          exact ⟨fun o' off' e => (by cases e; rw [hnew]; omega), fun xs l hc => by rw [hcv o off ho hn]; exact ht.2 xs l (by rw [← hcell o off ho hn]; exact hc)⟩
      | _ => exact RVe_of_RVs (RVs.ext hE hkeep (fun j b k e => hO.unseen e rfl) (RVs_of_RVe rfl ht))
  · obtain ⟨v, hv, hne⟩ := ht
    have hv' : get (killObjs objs s.env) t = v := hv
    rw [get_killObjs] at hv'
    split at hv'
    · exact absurd hv'.symm hne
    · exact h.bound t ⟨v, hv', hne⟩
  · show (X.mu ++ X1.mu.drop objs.length).length = _
    rw [hnew]
    simp [h.mu, hl1]
  · by_cases ho : o < s.heap.length
    · by_cases hn : o ∈ objs
      · have hi := idx_get hn
        have hil : objs.idxOf o < objs.length := List.idxOf_lt_length_of_mem hn
        have hback : backTo objs s.heap.length (objs.idxOf o) = o := by simp [backTo, hi]
        have hcs' : cs = (h'[objs.idxOf o]'(by omega)).map (renAV (backTo objs s.heap.length)) := by
          simp only [backIn] at hcs
          rw [List.getElem?_append_left (by rw [writeBack_len]; exact ho), writeBack_at objs _ _ _ o hO.nodup hi ho (by simp; omega)] at hcs
          simp [show objs.idxOf o < h'.length by omega] at hcs
          exact hcs.symm
        obtain ⟨b, cur, e, g1, g2, g3, g4, g5⟩ := hO.h.heap (objs.idxOf o) (h'[objs.idxOf o]'(by omega)) (by simp [show objs.idxOf o < h'.length by omega])
        have hmu := hO.muBack g1
        rw [hback] at hmu
        refine ⟨b, cur, e, hmu, ?_, g3, by rw [g4, hcs']; simp, fun j c hj => ⟨?_, trivial⟩⟩
        · rw [hO.take g2]; simp [labOut, hback]
        · rw [hcs', List.getElem?_map] at hj
          cases hc : (h'[objs.idxOf o]'(by omega))[j]? with
          | none => rw [hc] at hj; cases hj
          | some c0 =>
            rw [hc] at hj
            simp only [Option.map_some, Option.some.injEq] at hj
            subst hj
            exact hO.leaf (fun _ => by simp [labOut, hback]) (g5 j c0 hc).1
      · rw [backIn_old hO ho hn] at hcs
        obtain ⟨b, cur, e, g1, g2, g3, g4, g5⟩ := h.heap o cs hcs
        obtain ⟨u1, u2⟩ := hO.unseen (back := backTo objs s.heap.length) g2 (by simp [labIn, hn])
        exact ⟨b, cur, e, hkeep o b g1, u1, u2.trans g3, g4, fun j c hj => ⟨RVl.ext hE hkeep (fun b k e => hO.unseen e (by simp [labIn, hn])) (g5 j c hj).1, trivial⟩⟩
    · have hlt : o < s.heap.length + (h'.length - objs.length) := by rw [← hnew]; exact (List.getElem?_eq_some_iff.1 hcs).1
      have hq : objs.length + (o - s.heap.length) < h'.length := by omega
      have hback : backTo objs s.heap.length (objs.length + (o - s.heap.length)) = o := by
        simp [backTo]; omega
      have hcs' : cs = (h'[objs.length + (o - s.heap.length)]).map (renAV (backTo objs s.heap.length)) := by
        simp only [backIn] at hcs
        rw [List.getElem?_append_right (by rw [writeBack_len]; omega), writeBack_len, List.getElem?_map, List.getElem?_drop] at hcs
        simp [hq] at hcs
        exact hcs.symm
      obtain ⟨b, cur, e, g1, g2, g3, g4, g5⟩ := hO.h.heap (objs.length + (o - s.heap.length)) h'[objs.length + (o - s.heap.length)] (by simp [hq])
      have hmu := hO.muBack g1
      rw [hback] at hmu
      refine ⟨b, cur, e, hmu, ?_, g3, by rw [g4, hcs']; simp, fun j c hj => ⟨?_, trivial⟩⟩
      · rw [hO.take g2]; simp [labOut, hback]
      · rw [hcs', List.getElem?_map] at hj
        cases hc : (h'[objs.length + (o - s.heap.length)])[j]? with
        | none => rw [hc] at hj; cases hj
        | some c0 =>
          rw [hc] at hj
          simp only [Option.map_some, Option.some.injEq] at hj
          subst hj
          exact hO.leaf (fun _ => by simp [labOut, hback]) (g5 j c0 hc).1
  · rcases Out.cases e with ⟨h1, _, _⟩ | ⟨l0, h1, _⟩
    · exact Nat.lt_of_lt_of_le h1 hO.ext.size
    · exact hO.h.gdom b l0 k h1
  · exact h.amb b o (Nat.le_trans hO.ext.size hb)
  · rcases Out.cases e with ⟨_, _, h3⟩ | ⟨l0, h1, _⟩
    · exact h.oamb b l k h3 o
    · exact hO.amb1 (hO.h.oamb b l0 k h1 o)
  · obtain ⟨u, h1, h2, h3⟩ := h.glob g cs hg j c hj
    exact ⟨u, (hE.point h1 h2).1, (hE.point h1 h2).2, hE.rep h3⟩

theorem Out.res (hO : Out E X s a w objs X1 h' w1) {v : AV} {val : Value} (hr : ResRel w1 X1 v val) : RVe (X.outOf w objs (backTo objs s.heap.length) X1) (backIn s objs h') a w1 .res (renAll (backTo objs s.heap.length) v) val := by
  obtain ⟨h1, h2, h3, h4⟩ := hr
  have leaf : ∀ c, c.isOwn = false → RVl w1 X1 (.res 0) c val → (∀ us, c ≠ .tup us) → RVe (X.outOf w objs (backTo objs s.heap.length) X1) (backIn s objs h') a w1 .res (renAll (backTo objs s.heap.length) c) val := by
    intro c hc hl ht
    have := hO.leaf (l := .res 0) (l' := .res 0) (fun ho => by rw [hc] at ho; cases ho) hl
    have e : renAll (backTo objs s.heap.length) c = renAV (backTo objs s.heap.length) c := by cases c <;> first | rfl | exact absurd rfl (ht _)
    rw [e]
    exact RVe_of_RVs (RVs_leaf this)
  cases v with
  | agg cs => exact absurd rfl (h3 cs)
  | own xs l => cases h1
  | loc p => cases h2
  | elt p i off => cases h2
  | tup us =>
    obtain ⟨vs, hv, hn, hh⟩ := h4
    refine ⟨vs, hv, by simpa using hn, fun j c hj => ?_⟩
    rw [List.getElem?_map] at hj
    cases hc : us[j]? with
    | none => rw [hc] at hj; cases hj
    | some c0 =>
      rw [hc] at hj
      simp only [Option.map_some, Option.some.injEq] at hj
      subst hj
      obtain ⟨g1, g2⟩ := hh j c0 hc
      refine ⟨?_, hO.leaf (fun ho => by rw [g1] at ho; cases ho) g2⟩
      cases c0 <;> first | rfl | cases g1
  | _ => exact leaf _ rfl h4 (by intro us e; cases e)

theorem callA_sound {n : Nat} (hc : CallOk E n) : CallAOk E (n + 1) := by
  intro r h vs dst s s1 hp X a w args hR hargs hd
  obtain ⟨objs, hs, v, h', h1, h2, h3, h4, h5, rfl⟩ := callA_spec hp
  obtain ⟨hn, hsub, hcl⟩ := reach_spec _ h1 (addNew_nodup _ _ (by simp))
  have hvs : ∀ v ∈ vs, ∀ p ∈ ptrsOf v, p ∈ objs := fun v hv p hpp => hsub p (addNew_mem _ _ p (List.mem_flatMap.2 ⟨v, hv, hpp⟩))
  have hthere : ∀ o ∈ objs, o < s.heap.length := by
    intro o ho
    obtain ⟨i, hi⟩ := List.getElem?_of_mem ho
    obtain ⟨cs, h6, _⟩ := (cellsAt_spec h3).2 i o hi
    exact (List.getElem?_eq_some_iff.1 h6).1
  refine (hc h _ _ v h' h4 (X.into w objs) w args (into_H hR hn hcl h3) (into_args hn hargs hvs)).mono ?_
  rintro e w1 ⟨val, rfl, X1, hm, hE, hH, hr⟩
  have hO : Out E X s a w objs X1 h' w1 := ⟨hR, hn, hthere, hm, hE, hH⟩
  refine ⟨val, rfl, ?_, fun hdr o b hb hmo => ?_⟩
  · have hRC := hO.relC
    have hv := hO.res hr
    have hEC := hO.extC (backTo objs s.heap.length)
    cases dst with
    | none => exact ⟨rfl, _, ⟨_, rfl⟩, hEC, hRC⟩
    | some t =>
      obtain ⟨X3, m3, hE3, hR3⟩ := hRC.put (hd t rfl) hv
      exact ⟨size_put a _ _, X3, ⟨X1.mu.drop objs.length, by rw [m3]; rfl⟩, Ext.trans hR.gdom hEC hE3, hR3⟩
  · have hlt : o < s.heap.length := by rw [← hR.mu]; exact (List.getElem?_eq_some_iff.1 hb).1
    obtain ⟨b', cur, e, g1, g2, g3, _⟩ := hR.heap o s.heap[o] (by simp [hlt])
    rw [hb] at g1; cases g1
    have hno : o ∉ objs := fun hm => by have h9 := h2 hdr o hm; simp_all
    exact (hO.unseen (back := backTo objs s.heap.length) g2 (by simp [labIn, hno])).2

theorem all_sound {check : Nat → Nat → Array Oper → Bool} (hb : FuncsOk E check) (hd : DrawOk E check) : ∀ n, CallAOk E n ∧ CallOk E n := by
  have hA0 : CallAOk E 0 := fun r h vs dst s s1 hp => by simp [callA] at hp
  have hC0 : CallOk E 0 := fun h vs hp v hp' hc => by simp [call] at hc
  have key : ∀ n, ∀ m, m ≤ n → CallAOk E m ∧ CallOk E m := by
    intro n
    induction n with
    | zero =>
      intro m hm
      have h0 : m = 0 := by omega
      subst h0
      exact ⟨hA0, hC0⟩
    | succ n ih =>
      intro m hm
      by_cases hlt : m ≤ n
      · exact ih m hlt
      · have h1 : m = n + 1 := by omega
        subst h1
        exact ⟨callA_sound (ih n (Nat.le_refl _)).2, call_sound hb hd (fun j hj => (ih j (by omega)).1)⟩
  exact fun n => key n n (Nat.le_refl _)

end Go.Ab
