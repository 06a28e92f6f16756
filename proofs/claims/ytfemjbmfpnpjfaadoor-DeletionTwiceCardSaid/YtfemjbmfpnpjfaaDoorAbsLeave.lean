/- A function's way out: its results, and what is left of the variables. -/
import Derived.Test.YtfemjbmfpnpjfaaDoorAbsReach
import Derived.Laws.Sem
namespace Go.Ab

variable {E : Env0} {X : Cx} {s : St} {a : Act} {w : World}

/-- The variables alone. -/
def HRel (E : Env0) (X : Cx) (h : Heap) (w : World) : Prop := Rel E X { env := [], heap := h } { tmps := #[], defers := [] } w

def φout (m : Nat) : Loc → Option Loc
  | .blk o => if o < m then some (.blk o) else none
  | .cell o j => if o < m then some (.cell o j) else none
  | _ => none

def Cx.out (X : Cx) (m : Nat) : Cx := { X.remap (φout m) with mu := X.mu.take m }

theorem RVl.frozenφ {φ : Loc → Option Loc} {l : Loc} {c : AV} {d : D} {v : Value} (hφ : φ l = none) (hamb : ∀ b l k, X.G b = some (l, k) → ∀ o, X.amb b o) (h : RVl w X l c v) (hf : freezeLeaf c = some d) : Rep w (X.remap φ).imm d v := by
  cases c with
  | d x => simp [freezeLeaf] at hf; subst hf; exact (Ext.remap X w φ).rep h
  | own xs lt => simp [freezeLeaf] at hf; subst hf; exact OwnOk.frozen hφ hamb h
  | _ => simp [freezeLeaf] at hf

theorem renAV_id (c : AV) : renAV (fun o => o) c = c := by
  cases c with
  | fn f cs =>
    simp only [renAV]
    congr 1
    induction cs with
    | nil => rfl
    | cons x r ih => obtain ⟨o, a⟩ := x; simp only [List.map_cons, ih]
  | _ => rfl

theorem out_ext (X : Cx) (w : World) (m : Nat) : Ext X w (X.out m) w := ⟨rfl, Nat.le_refl _, rfl, rfl, rfl, (Ext.remap X w (φout m)).free, (Ext.remap X w (φout m)).own⟩

theorem RVl.out {m : Nat} {l : Loc} {c : AV} {v : Value} (hp : ∀ o ∈ ptrsOf c, o < m) (hl : c.isOwn = true → φout m l = some l) (h : RVl w X l c v) : RVl w (X.out m) l c v := by
  have hm : ∀ o ∈ ptrsOf c, ∀ b, X.mu[o]? = some b → (X.out m).mu[o]? = some b := by
    intro o ho b hb
    show (X.mu.take m)[o]? = some b
    rw [List.getElem?_take, if_pos (hp o ho)]
    exact hb
  by_cases ho : c.isOwn = true
  · rw [← renAV_id c]
    exact RVl.ren (fun d u hr => (out_ext X w m).rep hr) (fun b o u h1 h2 => (out_ext X w m).point h1 h2) hm (fun _ b k e => ⟨by show (X.remap (φout m)).G b = _; rw [Cx.remap_some e, hl ho]; rfl, rfl⟩) h
  · rw [← renAV_id c]
    have h' : RVl w { X with G := X.G } (.res 0) c v := RVl.copy (by simpa using ho) h
    cases c with
    | own xs lt => simp [AV.isOwn] at ho
    | undef => trivial
    | skipped => exact h
    | d x => exact (out_ext X w m).rep h
    | ptr o off => obtain ⟨b, hb, hv⟩ := h; exact ⟨b, hm o (by simp [ptrsOf]) b hb, hv⟩
    | view cs =>
      obtain ⟨b, off, hv, hh⟩ := h
      exact ⟨b, off, hv, fun j c hj => let ⟨u, h1, h2, h3⟩ := hh j c hj; ⟨u, ((out_ext X w m).point h1 h2).1, ((out_ext X w m).point h1 h2).2, (out_ext X w m).rep h3⟩⟩
    | fn f caps =>
      rw [renAV_id]
      obtain ⟨vs, hv, hn, hh⟩ := h
      exact ⟨vs, hv, hn, fun j o a hj => let ⟨b, hb, hu⟩ := hh j o a hj; ⟨b, hm o (by simp only [ptrsOf]; exact List.mem_map.2 ⟨_, List.mem_of_getElem? hj, rfl⟩) b hb, hu⟩⟩
    | loc p => exact h
    | elt p i off => exact h
    | agg cs => exact h
    | tup cs => exact h

theorem Rel.outH (h : Rel E X s a w) {m : Nat} (hm : m ≤ s.heap.length) (hp : ∀ o cs, o < m → s.heap[o]? = some cs → ∀ c ∈ cs, ∀ p ∈ ptrsOf c, p < m) : HRel E (X.out m) (s.heap.take m) w := by
  refine ⟨fun t => trivial, fun t ht => ?_, ?_, fun o cs hcs => ?_, fun b l k e => ?_, h.amb, fun b l k e => ?_, fun g cs hg j c hj => ?_, rfl⟩
  · obtain ⟨v, hv, hne⟩ := ht
    exact absurd hv.symm hne
  · show (X.mu.take m).length = (s.heap.take m).length
    simp [h.mu]
  · have hlt : o < m := by
      have := (List.getElem?_eq_some_iff.1 hcs).1
      simp at this; omega
    rw [List.getElem?_take, if_pos hlt] at hcs
    obtain ⟨b, cur, e, g1, g2, g3, g4, g5⟩ := h.heap o cs hcs
    refine ⟨b, cur, e, ?_, ?_, g3, g4, fun j c hj => ⟨RVl.out (fun p hpp => hp o cs hlt hcs c (List.mem_of_getElem? hj) p hpp) (fun _ => by simp [φout, hlt]) (g5 j c hj).1, trivial⟩⟩
    · show (X.mu.take m)[o]? = some b
      rw [List.getElem?_take, if_pos hlt]; exact g1
    · show (X.remap (φout m)).G b = _
      rw [Cx.remap_some g2]; simp [φout, hlt]
  · have e' : (X.remap (φout m)).G b = some (l, k) := e
    simp only [Cx.remap] at e'
    split at e'
    · rename_i l0 k0 h0; exact h.gdom b l0 k0 h0
    · cases e'
  · have e' : (X.remap (φout m)).G b = some (l, k) := e
    simp only [Cx.remap] at e'
    split at e'
    · rename_i l0 k0 h0; exact h.oamb b l0 k0 h0
    · cases e'
  · obtain ⟨u, h1, h2, h3⟩ := h.glob g cs hg j c hj
    exact ⟨u, ((out_ext X w m).point h1 h2).1, ((out_ext X w m).point h1 h2).2, (out_ext X w m).rep h3⟩

/-- One result. -/
theorem resultOf_sound (h : Rel E X s a w) {m : Nat} {x : ResultVar} {v : AV} (hr : resultOf E.P s x = some v) (hx : freshRes s m x = true ∨ isTmpRes x = true) (hp : ∀ o ∈ ptrsOf v, o < m) (j : Nat) :
    ∃ val, (match x with | .tmp t => (pure (a.tmps.getD t undef) : Sem Value) | .cell b t => do loadVar t (← asAddr (a.tmps.getD b undef))).run E.P w = .ok val w ∧ v.isOwn = false ∧ RVl w (X.out m) (.res j) v val := by
  cases x with
  | tmp t =>
    refine ⟨a.tmps.getD t undef, rfl, ?_⟩
    have ht := h.env t
    simp only [resultOf] at hr
    generalize get s.env t = c at ht hr
    have leafd : ∀ {d : D}, Rep w (X.remap (φout m)).imm d (a.tmps.getD t undef) → v = .d d → v.isOwn = false ∧ RVl w (X.out m) (.res j) v (a.tmps.getD t undef) := by
      rintro d hd rfl
      exact ⟨rfl, hd⟩
    cases c with
    | ptr o off => simp only [outOf, Option.some.injEq] at hr; subst hr; exact ⟨rfl, RVl.out hp (by simp [AV.isOwn]) (RVl.copy (l := .slot t 0) rfl ht)⟩
    | fn f cs => simp only [outOf, Option.some.injEq] at hr; subst hr; exact ⟨rfl, RVl.out hp (by simp [AV.isOwn]) (RVl.copy (l := .slot t 0) rfl ht)⟩
    | d x => simp [outOf, freeze, freezeLeaf] at hr; subst hr; exact leafd ((out_ext X w m).rep ht) rfl
    | own xs l => simp [outOf, freeze, freezeLeaf] at hr; subst hr; exact leafd (OwnOk.frozen (l := .slot t 0) rfl h.oamb ht) rfl
    | agg cs =>
      simp only [outOf, freeze, Option.map_eq_some_iff] at hr
      obtain ⟨_, ⟨ds, hds, rfl⟩, rfl⟩ := hr
      obtain ⟨vs, hv, hn, hh⟩ := ht
      rw [hv]
      obtain ⟨h3, h4⟩ := freezeAll_get hds
      refine ⟨rfl, ?_⟩
      refine .agg ds vs (by omega) (fun i d hi => ?_)
      have hlt : i < cs.length := by rw [← h3]; exact (List.getElem?_eq_some_iff.1 hi).1
      obtain ⟨d', hd', hfd⟩ := h4 i cs[i] (by simp [hlt])
      rw [hi] at hd'; cases hd'
      exact RVl.frozenφ (l := .slot t i) rfl h.oamb (hh i cs[i] (by simp [hlt])) hfd
    | _ => simp [outOf, freeze, freezeLeaf] at hr
  | cell b t =>
    have hfr : freshRes s m (.cell b t) = true := by rcases hx with e | e; exact e; cases e
    have hptr : ∃ o off, get s.env b = .ptr o off ∧ m ≤ o := by
      simp only [freshRes] at hfr
      generalize get s.env b = c at hfr
      cases c with
      | ptr o off => exact ⟨o, off, rfl, of_decide_eq_true hfr⟩
      | _ => cases hfr
    obtain ⟨o, off, hgb, hge⟩ := hptr
    simp only [resultOf, hgb] at hr
    have hb := h.env b
    rw [hgb] at hb
    have hno : ∀ i, φout m (.cell o i) = none := fun i => by simp [φout]; omega
    obtain ⟨bb, hmu, hv⟩ := hb
    split at hr
    · rename_i n cs hag hsz hcs
      split at hr
      · rename_i hle
        simp only [Option.map_eq_some_iff] at hr
        obtain ⟨ds, hds, rfl⟩ := hr
        obtain ⟨b1, cur, e, g1, g2, g3, g4, g5⟩ := h.heap o cs hcs
        rw [hmu] at g1; cases g1
        refine ⟨.agg (((cur.toList.drop off).take n).toArray), ?_, rfl, ?_⟩
        · show (do loadVar t (← asAddr (a.tmps.getD b undef)) : Sem Value).run E.P w = _
          rw [hv]
          simp only [asAddr, Sem.run_bind, Sem.run_pure, Result.andThen_ok]
          refine run_loadVar_agg hag hsz (by simp; omega) (fun i u hi => ?_)
          rw [cell_of_row w bb (off + i) cur e (0, 0) g3]
          rw [List.getElem?_take] at hi
          split at hi
          · rw [List.getElem?_drop] at hi; simpa using hi
          · cases hi
        · obtain ⟨h3, h4⟩ := freezeAll_get hds
          refine .agg ds _ (by simp at h3 ⊢; omega) (fun i d hi => ?_)
          have hi' : i < n := by
            have := (List.getElem?_eq_some_iff.1 hi).1
            simp at h3; omega
          have hlt : off + i < cs.length := by omega
          have hc : ((cs.drop off).take n)[i]? = some cs[off + i] := by
            rw [List.getElem?_take, if_pos hi', List.getElem?_drop]; simp [hlt]
          obtain ⟨d', hd', hfd⟩ := h4 i _ hc
          rw [hi] at hd'; cases hd'
          have hval : (((cur.toList.drop off).take n).toArray).getD i undef = cur.getD (off + i) undef := by
            have : off + i < cur.size := by omega
            simp [Array.getD_eq_getD_getElem?, hi']
          rw [hval]
          exact RVl.frozenφ (hno _) h.oamb (g5 (off + i) cs[off + i] (by simp [hlt])).1 hfd
      · cases hr
    · rename_i cs hag hcs
      split at hr
      · rename_i c hc
        obtain ⟨b1, cur, e, g1, g2, g3, g4, g5⟩ := h.heap o cs hcs
        rw [hmu] at g1; cases g1
        have hcl := (g5 off c hc).1
        have hlt : off < cur.size := by rw [g4]; exact (List.getElem?_eq_some_iff.1 hc).1
        refine ⟨cur.getD off undef, ?_, ?_⟩
        · show (do loadVar t (← asAddr (a.tmps.getD b undef)) : Sem Value).run E.P w = _
          rw [hv]
          simp only [asAddr, Sem.run_bind, Sem.run_pure, Result.andThen_ok]
          refine run_loadVar_one hag ?_
          rw [cell_of_row w bb off cur e (0, 0) g3]
          simp [Array.getD_eq_getD_getElem?, hlt]
        · cases c with
          | ptr o' off' => simp only [outOf, Option.some.injEq] at hr; subst hr; exact ⟨rfl, RVl.out hp (by simp [AV.isOwn]) (RVl.copy rfl hcl)⟩
          | fn f cs => simp only [outOf, Option.some.injEq] at hr; subst hr; exact ⟨rfl, RVl.out hp (by simp [AV.isOwn]) (RVl.copy rfl hcl)⟩
          | d x => simp [outOf, freeze, freezeLeaf] at hr; subst hr; exact ⟨rfl, (out_ext X w m).rep hcl⟩
          | own xs l => simp [outOf, freeze, freezeLeaf] at hr; subst hr; exact ⟨rfl, OwnOk.frozen (hno _) h.oamb hcl⟩
          | agg cs => exact (hcl : False).elim
          | _ => simp [outOf, freeze, freezeLeaf] at hr
      · cases hr
    · cases hr

theorem resultsOf_sound (h : Rel E X s a w) {m : Nat} {f : ResultVar → Sem Value} (f1 : ∀ t, f (.tmp t) = pure (a.tmps.getD t undef)) (f2 : ∀ b t, f (.cell b t) = do loadVar t (← asAddr (a.tmps.getD b undef))) : ∀ {l : List ResultVar} {vs : List AV} (j : Nat), resultsOf E.P s l = some vs → (∀ x ∈ l, freshRes s m x = true ∨ isTmpRes x = true) → (∀ v ∈ vs, ∀ o ∈ ptrsOf v, o < m) →
    ∃ vals : List Value, (l.mapM f).run E.P w = .ok vals w ∧ vals.length = vs.length ∧
      ∀ (i : Nat) v, vs[i]? = some v → v.isOwn = false ∧ RVl w (X.out m) (.res (j + i)) v (vals.getD i undef)
  | [], vs, j, hr, _, _ => by simp [resultsOf] at hr; subst hr; exact ⟨[], by simp, rfl, fun i v hi => by simp at hi⟩
  | x :: l, vs, j, hr, hx, hp => by
    simp only [resultsOf] at hr
    cases h1 : resultOf E.P s x with
    | none => simp [h1] at hr
    | some v =>
      cases h2 : resultsOf E.P s l with
      | none => simp [h1, h2] at hr
      | some vs' =>
        simp only [h1, h2, Option.some.injEq] at hr
        subst hr
        obtain ⟨val, g1, g2, g3⟩ := resultOf_sound h h1 (hx x (by simp)) (hp v (by simp)) j
        obtain ⟨vals, g4, g5, g6⟩ := resultsOf_sound h f1 f2 (j + 1) h2 (fun y hy => hx y (by simp [hy])) (fun u hu => hp u (by simp [hu]))
        refine ⟨val :: vals, ?_, by simp [g5], fun i u hi => ?_⟩
        · rw [List.mapM_cons]
          have g1' : (f x).run E.P w = .ok val w := by
            cases x with
            | tmp t => rw [f1]; exact g1
            | cell b t => rw [f2]; exact g1
          simp only [Sem.run_bind]
          rw [g1']
          simp only [Result.andThen_ok]
          rw [g4]
          rfl
        · cases i with
          | zero => simp at hi; subst hi; exact ⟨g2, by simpa using g3⟩
          | succ i =>
            have := g6 i u (by simpa using hi)
            rw [show j + (i + 1) = j + 1 + i by omega]
            simpa using this

theorem leafPtrs (h : Rel E X s a w) {l : Loc} {c : AV} {v : Value} (hr : RVl w X l c v) : ∀ p ∈ ptrsOf c, p < s.heap.length := by
  intro p hp
  rw [← h.mu]
  cases c with
  | ptr o off => simp [ptrsOf] at hp; subst hp; obtain ⟨b, hb, _⟩ := hr; exact (List.getElem?_eq_some_iff.1 hb).1
  | fn f cs =>
    simp only [ptrsOf, List.mem_map] at hp
    obtain ⟨⟨o, a0⟩, hm, rfl⟩ := hp
    obtain ⟨vs, _, _, hh⟩ := hr
    obtain ⟨j, hj⟩ := List.getElem?_of_mem hm
    obtain ⟨b, hb, _⟩ := hh j o a0 hj
    exact (List.getElem?_eq_some_iff.1 hb).1
  | _ => simp [ptrsOf] at hp

theorem outPtrs (h : Rel E X s a w) {t : Nat} {v : AV} (hr : outOf (get s.env t) = some v) : ∀ p ∈ ptrsOf v, p < s.heap.length := by
  have ht := h.env t
  generalize get s.env t = c at ht hr
  cases c with
  | ptr o off => simp only [outOf, Option.some.injEq] at hr; subst hr; exact leafPtrs h (l := .slot t 0) ht
  | fn f cs => simp only [outOf, Option.some.injEq] at hr; subst hr; exact leafPtrs h (l := .slot t 0) ht
  | _ =>
    simp only [outOf, Option.map_eq_some_iff] at hr
    obtain ⟨d, _, rfl⟩ := hr
    intro p hp
    simp [ptrsOf] at hp

theorem resPtrs (h : Rel E X s a w) : ∀ {l : List ResultVar} {vs : List AV}, resultsOf E.P s l = some vs → ∀ v ∈ vs, ∀ p ∈ ptrsOf v, p < s.heap.length
  | [], vs, hr => by simp [resultsOf] at hr; subst hr; simp
  | x :: l, vs, hr => by
    simp only [resultsOf] at hr
    cases h1 : resultOf E.P s x with
    | none => simp [h1] at hr
    | some v =>
      cases h2 : resultsOf E.P s l with
      | none => simp [h1, h2] at hr
      | some vs' =>
        simp only [h1, h2, Option.some.injEq] at hr
        subst hr
        intro u hu
        rcases List.mem_cons.1 hu with rfl | hu
        · cases x with
          | tmp t => exact outPtrs h h1
          | cell b t =>
            simp only [resultOf] at h1
            split at h1
            · rename_i o off _
              split at h1
              · split at h1
                · simp only [Option.map_eq_some_iff] at h1
                  obtain ⟨d, _, rfl⟩ := h1
                  intro p hp; simp [ptrsOf] at hp
                · cases h1
              · rename_i cs hag hcs
                split at h1
                · rename_i c hc
                  obtain ⟨b1, cur, e, g1, g2, g3, g4, g5⟩ := h.heap o cs hcs
                  have hcl := (g5 off c hc).1
                  cases c with
                  | ptr o off => simp only [outOf, Option.some.injEq] at h1; subst h1; exact leafPtrs h hcl
                  | fn f cs => simp only [outOf, Option.some.injEq] at h1; subst h1; exact leafPtrs h hcl
                  | _ =>
                    simp only [outOf, Option.map_eq_some_iff] at h1
                    obtain ⟨d, _, rfl⟩ := h1
                    intro p hp
                    simp [ptrsOf] at hp
                · cases h1
              · cases h1
            · cases h1
        · exact resPtrs h h2 u hu

/-- What a call hands back. -/
def ResRel (w : World) (X : Cx) (v : AV) (val : Value) : Prop := v.isOwn = false ∧ v.placed = false ∧ (∀ cs, v ≠ .agg cs) ∧ RVs w X .res v val

theorem leave_sound (h : Rel E X s a w) {fn : Func} {k : Nat} (hk : k ≤ s.heap.length) {v : AV} {hp : Heap} (hl : leave E.P fn k s = some (v, hp)) :
    ∃ val, (results fn a.tmps).run E.P w = .ok val w ∧ ∃ X1, X1.mu = X.mu.take hp.length ∧ k ≤ hp.length ∧ Ext X w X1 w ∧ HRel E X1 hp w ∧ ResRel w X1 v val := by
  unfold leave at hl
  cases hvs : resultsOf E.P s fn.results.toList with
  | none => simp [hvs] at hl
  | some vs =>
    simp only [hvs] at hl
    have key : ∀ m, m ≤ s.heap.length → k ≤ m → (∀ x ∈ fn.results.toList, freshRes s m x = true ∨ isTmpRes x = true) → (∀ v ∈ vs, ∀ o ∈ ptrsOf v, o < m) → (∀ o cs, o < m → s.heap[o]? = some cs → ∀ c ∈ cs, ∀ p ∈ ptrsOf c, p < m) →
        ∃ val, (results fn a.tmps).run E.P w = .ok val w ∧ ∃ X1, X1.mu = X.mu.take m ∧ Ext X w X1 w ∧ HRel E X1 (s.heap.take m) w ∧ ResRel w X1 (packRes vs) val := by
      intro m hm hkm hx hp hc
      have hres : ∃ f : ResultVar → Sem Value, (∀ t, f (.tmp t) = pure (a.tmps.getD t undef)) ∧ (∀ b t, f (.cell b t) = do loadVar t (← asAddr (a.tmps.getD b undef))) ∧
          results fn a.tmps = (do let vs ← fn.results.mapM f; pure (if h : vs.size = 1 then vs[0] else .tuple vs)) := ⟨_, fun _ => rfl, fun _ _ => rfl, rfl⟩
      obtain ⟨f, f1, f2, hres⟩ := hres
      obtain ⟨vals, g1, g2, g3⟩ := resultsOf_sound h (m := m) f1 f2 0 hvs hx hp
      refine ⟨if hs : vals.toArray.size = 1 then vals.toArray[0] else .tuple vals.toArray, ?_, X.out m, rfl, out_ext X w m, h.outH hm hc, ?_⟩
      · rw [hres, Array.mapM_eq_mapM_toList]
        simp only [Sem.run_bind, map_eq_pure_bind]
        rw [g1]
        simp
      · have tup : ∀ us : List AV, us = vs → (us.length ≠ 1) → ResRel w (X.out m) (.tup us) (if hs : vals.toArray.size = 1 then vals.toArray[0] else .tuple vals.toArray) := by
          rintro us rfl hne
          refine ⟨rfl, rfl, by simp, ?_⟩
          rw [dif_neg (by simp [g2, hne])]
          exact ⟨vals.toArray, rfl, by simp [g2], fun j c hj => by have := g3 j c hj; simpa [Array.getD_eq_getD_getElem?] using this⟩
        match vs, g2, g3, tup with
        | [], g2, g3, tup => exact tup [] rfl (by simp)
        | [v], g2, g3, tup =>
            obtain ⟨x, rfl⟩ := List.length_eq_one_iff.1 (show vals.length = 1 from g2)
            obtain ⟨h5, h6⟩ := g3 0 v rfl
            have h7 : RVl w (X.out m) (.res 0) v x := h6
            simp only [List.size_toArray, List.length_cons, List.length_nil, Nat.zero_add, dite_true, List.getElem_toArray, List.getElem_cons_zero]
            refine ⟨h5, ?_, ?_, RVs_leaf h7⟩
            · cases v <;> first | rfl | exact (h7 : False).elim
            · rintro cs rfl; exact (h7 : False).elim
        | v1 :: v2 :: r, g2, g3, tup => exact tup _ rfl (by simp)
    have hxs : ∀ (f : ResultVar → Bool), fn.results.toList.all f = true → ∀ x ∈ fn.results.toList, f x = true := fun f hf x hx => (List.all_eq_true.1 hf) x hx
    split at hl
    · rename_i hcl
      split at hl
      · rename_i hfr0
        have hfr := (Bool.and_eq_true _ _ ▸ hfr0).1
        simp only [Option.some.injEq, Prod.mk.injEq] at hl
        obtain ⟨rfl, rfl⟩ := hl
        simp only [List.all_append, Bool.and_eq_true, List.all_eq_true, decide_eq_true_eq] at hcl
        obtain ⟨val, g1, X1, g2, g3, g4, g5⟩ := key k hk (Nat.le_refl _) (fun x hx => .inl (hxs _ hfr x hx)) (fun v hv o ho => hcl.1 o (List.mem_flatMap.2 ⟨v, hv, ho⟩))
          (fun o cs ho hcs c hc p hp => hcl.2 p (List.mem_flatMap.2 ⟨cs, List.mem_of_getElem? (by rw [List.getElem?_take, if_pos ho]; exact hcs), List.mem_flatMap.2 ⟨c, hc, hp⟩⟩))
        have hlen : (s.heap.take k).length = k := by simp; omega
        exact ⟨val, g1, X1, by rw [hlen]; exact g2, by rw [hlen]; exact Nat.le_refl _, g3, g4, g5⟩
      · cases hl
    · split at hl
      · rename_i hfr0
        have hfr := (Bool.and_eq_true _ _ ▸ hfr0).1
        simp only [Option.some.injEq, Prod.mk.injEq] at hl
        obtain ⟨rfl, rfl⟩ := hl
        have hlen : (s.heap.take s.heap.length) = s.heap := by simp
        obtain ⟨val, g1, X1, g2, g3, g4, g5⟩ := key s.heap.length (Nat.le_refl _) hk (fun x hx => .inr (hxs _ hfr x hx)) (resPtrs h hvs) (fun o cs ho hcs c hc p hp => by
          obtain ⟨b, cur, e, q1, q2, q3, q4, q5⟩ := h.heap o cs hcs
          obtain ⟨j, hj⟩ := List.getElem?_of_mem hc
          exact leafPtrs h (q5 j c hj).1 p hp)
        rw [hlen] at g4
        exact ⟨val, g1, X1, g2, hk, g3, g4, g5⟩
      · cases hl

end Go.Ab
