/- Literals of structs and slices. -/
import Derived.Test.YtfemjbmfpnpjfaaDoorAbsStep
import Derived.DataBytes
namespace Go.Ab

variable {E : Env0} {X : Cx} {s s1 : St} {a : Act} {w : World}

theorem fold_set (off : Nat) : ∀ (l : List Value) (k : Nat) (cells : Array Value), off + k + l.length ≤ cells.size →
    ((l.zipIdx k).foldl (fun (cs : Array Value) (x : Value × Nat) => cs.setIfInBounds (off + x.2) x.1) cells).size = cells.size ∧
    ∀ p : Nat, ((l.zipIdx k).foldl (fun (cs : Array Value) (x : Value × Nat) => cs.setIfInBounds (off + x.2) x.1) cells)[p]? = if off + k ≤ p ∧ p < off + k + l.length then l[p - (off + k)]? else cells[p]?
  | [], k, cells, _ => ⟨rfl, fun p => by simp; omega⟩
  | v :: l, k, cells, h => by
    simp only [List.length_cons] at h
    obtain ⟨h1, h2⟩ := fold_set off l (k + 1) (cells.setIfInBounds (off + k) v) (by rw [Array.size_setIfInBounds]; omega)
    simp only [List.zipIdx_cons, List.foldl_cons]
    refine ⟨by rw [h1]; simp, fun p => ?_⟩
    rw [h2 p]
    by_cases e1 : p = off + k
    · subst e1
      have hlt : off + k < cells.size := by omega
      rw [if_neg (by omega), if_pos ⟨Nat.le_refl _, by simp⟩, Nat.sub_self]
      simp [hlt]
    · by_cases e2 : off + (k + 1) ≤ p ∧ p < off + (k + 1) + l.length
      · rw [if_pos e2, if_pos ⟨by omega, by simp; omega⟩]
        have : p - (off + k) = (p - (off + (k + 1))) + 1 := by omega
        rw [this, List.getElem?_cons_succ]
      · rw [if_neg e2, if_neg (by simp; omega), Array.getElem?_setIfInBounds_ne (Ne.symm e1)]

theorem fold_setA (off : Nat) (vs cells : Array Value) (h : off + vs.size ≤ cells.size) :
    (vs.zipIdx.foldl (fun (cs : Array Value) (x : Value × Nat) => cs.setIfInBounds (off + x.2) x.1) cells).size = cells.size ∧
    ∀ p : Nat, (vs.zipIdx.foldl (fun (cs : Array Value) (x : Value × Nat) => cs.setIfInBounds (off + x.2) x.1) cells)[p]? = if off ≤ p ∧ p < off + vs.size then vs[p - off]? else cells[p]? := by
  have := fold_set off vs.toList 0 cells (by simpa using h)
  rw [← Array.foldl_toList]
  have e : vs.zipIdx.toList = vs.toList.zipIdx 0 := by simp [Array.toList_zipIdx]
  rw [e]
  simpa using this

theorem fill_cons (place : Nat → Option (Nat × Nat)) (cells : Array Value) (i : Nat) (v : Value) (rest : List (Nat × Value)) {off size : Nat} (hp : place i = some (off, size)) (hv : v.cells.size = size) (hle : off + size ≤ cells.size) :
    Instr.fill place cells ((i, v) :: rest) = Instr.fill place (v.cells.zipIdx.foldl (fun (cs : Array Value) (x : Value × Nat) => cs.setIfInBounds (off + x.2) x.1) cells) rest := by
  have h1 : ¬ (v.cells.size ≠ size || decide (off + v.cells.size > cells.size)) = true := by
    simp only [Bool.or_eq_true, decide_eq_true_eq]
    omega
  simp only [Instr.fill, hp]
  rw [if_neg h1]

theorem del_append (s : St) : ∀ l1 l2 : List Nat, s.del (l1 ++ l2) = (s.del l1).del l2
  | [], l2 => rfl
  | t :: l1, l2 => by simp only [List.cons_append, St.del]; exact del_append _ l1 l2

theorem build_core (place : Nat → Option (Nat × Nat)) : ∀ (parts : List (Nat × Operand)) (s : St) (X : Cx) (cA cA' : List AV) (c : Array Value) (ps : List (Nat × AV)), Rel E X s a w → c.size = cA.length →
    (∀ (j : Nat) y, cA[j]? = some y → RVl w X (.res j) y (c.getD j undef)) → partsOf E s parts = some ps → fillA place cA ps = some cA' →
    ∃ X' c', Instr.fill place c (parts.map fun p => (p.1, a.eval p.2)) = some c' ∧ X'.mu = X.mu ∧ Ext X w X' w ∧ Rel E X' (s.del (parts.flatMap fun p => tmpOf p.2)) a w ∧ c'.size = cA'.length ∧
      ∀ (j : Nat) y, cA'[j]? = some y → RVl w X' (.res j) y (c'.getD j undef)
  | [], s, X, cA, cA', c, ps, h, hc, hr, hp, hf => by
    simp only [partsOf, Option.some.injEq] at hp
    subst hp
    simp only [fillA, Option.some.injEq] at hf
    subst hf
    exact ⟨X, c, rfl, rfl, Ext.refl X w, h, hc, hr⟩
  | (i, x) :: parts, s, X, cA, cA', c, ps, h, hc, hr, hp, hf => by
    simp only [partsOf] at hp
    cases hm : movable (ev E s x) with
    | none => simp [hm] at hp
    | some v =>
      cases hp2 : partsOf E (s.del (tmpOf x)) parts with
      | none => simp [hm, hp2] at hp
      | some ps2 =>
        simp only [hm, hp2, Option.some.injEq] at hp
        subst hp
        simp only [fillA] at hf
        cases hpl : place i with
        | none => simp [hpl] at hf
        | some os =>
          obtain ⟨off, size⟩ := os
          simp only [hpl] at hf
          split at hf
          · rename_i hcond
            obtain ⟨hlen, hle⟩ := hcond
            obtain ⟨X1, hmu1, hE1, hR1, hrv, hk, _⟩ := h.take hm off
            have hvm : movable v = some v := by
              generalize ev E s x = c at hm
              cases c <;> simp [movable] at hm <;> subst hm <;> rfl
            obtain ⟨hsz, hcells⟩ := cells_rel hvm hrv
            obtain ⟨g1, g2⟩ := fold_setA off (a.eval x).cells c (by omega)
            have hres : ∀ j, KeptAt X w X1 w (.res j) := fun j => hk _ (fun t j' _ => by simp)
            obtain ⟨X2, c', hfill, hmu2, hE2, hR2, hc', hr'⟩ := build_core place parts (s.del (tmpOf x)) X1 _ cA' ((a.eval x).cells.zipIdx.foldl (fun (cs : Array Value) (x : Value × Nat) => cs.setIfInBounds (off + x.2) x.1) c) ps2 hR1
              (by rw [g1]; simp; omega) (fun j y hj => by
                have hjs : (cA.take off ++ v.cells ++ cA.drop (off + size))[j]? = some y := hj
                rw [← hlen, splice_getA cA v.cells off j (by omega)] at hjs
                have hval : ∀ z : Array Value, z.getD j undef = (z[j]?).getD undef := fun z => by simp [Array.getD_eq_getD_getElem?]
                rw [hval, g2 j]
                by_cases e : off ≤ j ∧ j < off + v.cells.length
                · rw [if_pos e] at hjs
                  rw [if_pos (by omega)]
                  have := hcells (j - off) y hjs
                  rw [show off + (j - off) = j by omega] at this
                  simpa [Array.getD_eq_getD_getElem?] using this
                · rw [if_neg e] at hjs
                  rw [if_neg (by omega), ← hval]
                  exact RVl.ext hE1 (fun o b e' => by rw [hmu1]; exact e') (fun b k hx => hres j b k hx) (hr j y hjs)) hp2 hf
            refine ⟨X2, c', ?_, hmu2.trans hmu1, Ext.trans h.gdom hE1 hE2, by simp only [List.flatMap_cons]; rw [del_append]; exact hR2, hc', hr'⟩
            rw [List.map_cons, fill_cons place c i (a.eval x) _ hpl (by omega) (by omega)]
            exact hfill
          · cases hf

theorem allD_get : ∀ {cs : List AV} {ds : List D}, allD cs = some ds → cs = ds.map .d
  | [], ds, h => by simp [allD] at h; subst h; rfl
  | c :: r, ds, h => by
    cases c <;> simp [allD] at h
    obtain ⟨ds', h1, rfl⟩ := h
    rw [allD_get h1]; rfl

theorem packAgg_rel {cs : List AV} {c : Array Value} (hc : c.size = cs.length) (hr : ∀ (j : Nat) y, cs[j]? = some y → RVl w X (.res j) y (c.getD j undef)) : RVs w X .res (packAgg cs) (.agg c) := by
  unfold packAgg
  split
  · rename_i ds hd
    have := allD_get hd
    subst this
    exact Rep.agg ds c (by simpa using hc) (fun j d hj => hr j (.d d) (by simp [hj]))
  · exact ⟨c, rfl, hc, hr⟩

theorem build_all (h : Rel E X s a w) (o : Oper) {t : TypeId} {parts : Array (Nat × Operand)} (ho : o.op = .build t parts) {z : Array Value} {ps : List (Nat × AV)} {cs : List AV} (hz : tyZero E.P t = some (.agg z)) (hp : partsOf E s parts.toList = some ps) (hok : placesOk E.P t = true)
    (hf : fillA (fieldPlace E.P t) (z.toList.map constLeaf) ps = some cs) : ∃ val, (∀ w', (execOp a.eval o).run E.P w' = .ok (.value val) w') ∧ ∃ X', (∃ more, X'.mu = X.mu ++ more) ∧ Ext X w X' w ∧ Rel E X' (s.del (parts.toList.flatMap fun p => tmpOf p.2)) a w ∧ RVe X' (s.del (parts.toList.flatMap fun p => tmpOf p.2)) a w .res (packAgg cs) val := by
  obtain ⟨X', c', hfill, hmu, hE, hR, hc, hr⟩ := build_core (fieldPlace E.P t) parts.toList s X (z.toList.map constLeaf) cs z ps h (by simp) (fun j y hj => by
    simp only [List.getElem?_map, Array.getElem?_toList, Option.map_eq_some_iff] at hj
    obtain ⟨u, hu, rfl⟩ := hj
    have : z.getD j undef = u := by simp [Array.getD_eq_getD_getElem?, hu]
    rw [this]
    exact constLeaf_rel w X _ u) hp hf
  refine ⟨.agg c', fun w' => ?_, X', ⟨[], by simp [hmu]⟩, hE, hR, RVe_of_RVs (packAgg_rel hc hr)⟩
  have hparts : (parts.map fun (i, x) => (i, a.eval x)).toList = parts.toList.map fun p => (p.1, a.eval p.2) := by simp
  obtain ⟨it, hit, hiz⟩ := tyZero_i hz
  have hbuilt : E.P.built t (parts.map fun (i, x) => (i, a.eval x)).toList = some c' := by
    unfold placesOk at hok
    unfold Program.built
    rw [hparts]
    split at hok
    · rename_i fs hu
      have hall : ∀ f ∈ fs.toList, (tySize E.P f.type).isSome = true := fun f hf => Array.all_eq_true'.1 hok f (by simpa using hf)
      have hmap : fs.toList.mapM (fun f => (E.P.info? f.type).map fun i => (f.offset, i.size)) = some (fs.toList.map fun f => (f.offset, (tySize E.P f.type).getD 0)) := by
        refine mapM_some_of_forall _ (fun f hf => ?_)
        obtain ⟨n, hn⟩ := Option.isSome_iff_exists.1 (hall f hf)
        obtain ⟨i, hi, hs⟩ := tySize_i hn
        simp [hi, hn, hs]
      have hpl : (fun i => (fs.toList.map fun f => (f.offset, (tySize E.P f.type).getD 0)).toArray[i]?) = fieldPlace E.P t := by
        funext i
        simp only [fieldPlace, hu]
        cases hfi : fs[i]? with
        | none => simp [hfi]
        | some f =>
          obtain ⟨n, hn⟩ := Option.isSome_iff_exists.1 (hall f (by simpa using Array.mem_of_getElem? hfi))
          simp [hfi, hn]
      simp only [hit, hu, hiz, hmap]
      rw [hpl]
      exact hfill
    · rename_i m e hu
      obtain ⟨n, hn⟩ := Option.isSome_iff_exists.1 hok
      obtain ⟨i, hi, hs⟩ := tySize_i hn
      have hpl : (fun j => some (j * i.size, i.size)) = fieldPlace E.P t := by
        funext j
        simp only [fieldPlace, hu, hn, hs, Option.map_some]
      simp only [hit, hu, hiz, hi]
      rw [hpl]
      exact hfill
    · cases hok
  simp only [execOp, ho, Sem.run_bind, run_build w' t _ c' hbuilt, Result.andThen_ok]
  rfl
theorem build_sound (h : Rel E X s a w) (o : Oper) {t : TypeId} {parts : Array (Nat × Operand)} (ho : o.op = .build t parts) {z : Array Value} {ps : List (Nat × AV)} {cs : List AV} (hz : tyZero E.P t = some (.agg z)) (hp : partsOf E s parts.toList = some ps) (hok : placesOk E.P t = true)
    (hf : fillA (fieldPlace E.P t) (z.toList.map constLeaf) ps = some cs) : Sound E X a w ((execOp a.eval o).run E.P w) (packAgg cs) (s.del (parts.toList.flatMap fun p => tmpOf p.2)) := by
  obtain ⟨val, hr, X', h1, h2, h3, h4⟩ := build_all h o ho hz hp hok hf
  exact ⟨val, w, X', hr w, h1, h2, h3, h4⟩

/-! ### Slices written out -/

theorem fill_seq {P : Program} {I : Nat → Nat → Prop} {w : World} (sz : Nat) (hz : 0 < sz) : ∀ (vs : List Value) (k : Nat) (cells : Array Value), (∀ v ∈ vs, v.cells.size = sz) → (k + vs.length) * sz ≤ cells.size →
    ∃ out, Instr.fill (fun i => some (i * sz, sz)) cells ((vs.zipIdx k).map fun x => (x.2, x.1)) = some out ∧ out.size = cells.size ∧
      (∀ p : Nat, p < k * sz → out[p]? = cells[p]?) ∧ ∀ (i : Nat) v, vs[i]? = some v → ∀ j : Nat, j < sz → out[(k + i) * sz + j]? = v.cells[j]?
  | [], k, cells, _, _ => ⟨cells, rfl, rfl, fun _ _ => rfl, fun i v hv => by simp at hv⟩
  | v :: vs, k, cells, hs, hle => by
    have hv : v.cells.size = sz := hs v (by simp)
    simp only [List.length_cons] at hle
    have hb : (k + 1) * sz ≤ (k + (vs.length + 1)) * sz := Nat.mul_le_mul_right _ (by omega)
    have e1 : (k + 1) * sz = k * sz + sz := by rw [Nat.add_mul]; omega
    obtain ⟨g1, g2⟩ := fold_setA (k * sz) v.cells cells (by omega)
    obtain ⟨out, h1, h2, h3, h4⟩ := fill_seq (P := P) (I := I) (w := w) sz hz vs (k + 1) (v.cells.zipIdx.foldl (fun (cs : Array Value) (x : Value × Nat) => cs.setIfInBounds (k * sz + x.2) x.1) cells) (fun u hu => hs u (by simp [hu])) (by rw [g1]; rw [show k + 1 + vs.length = k + (vs.length + 1) by omega]; exact hle)
    refine ⟨out, ?_, h2.trans g1, fun p hp => ?_, fun i u hu j hj => ?_⟩
    · rw [List.zipIdx_cons, List.map_cons, fill_cons _ cells k v _ rfl hv (by omega)]
      exact h1
    · rw [h3 p (by omega), g2 p, if_neg (by omega)]
    · cases i with
      | zero =>
        simp at hu; subst hu
        rw [Nat.add_zero, h3 _ (by omega), g2, if_pos (by omega)]
        congr 1; omega
      | succ i =>
        have := h4 i u (by simpa using hu) j hj
        rw [← this, show k + (i + 1) = k + 1 + i by omega]

theorem ordered_zip {E : Env0} : ∀ (l : List (Nat × Operand)) (k : Nat) (f : Operand → Value), orderedFrom k l = true → l.map (fun p => (p.1, f p.2)) = ((l.map fun p => f p.2).zipIdx k).map fun x => (x.2, x.1)
  | [], k, f, _ => rfl
  | (i, x) :: l, k, f, h => by
    simp only [orderedFrom, Bool.and_eq_true, beq_iff_eq] at h
    obtain ⟨rfl, h2⟩ := h
    simp only [List.map_cons, List.zipIdx_cons]
    rw [ordered_zip (E := E) l (i + 1) f h2]

theorem buildSlice_sound (h : Rel E X s a w) (o : Oper) {t e : TypeId} {n : Nat} {parts : Array (Nat × Operand)} (ho : o.op = .buildSlice t n parts) {xs : List D} (he : tyElem E.P t = some e) (hp : plainsC E s (parts.toList.map (·.2)) = some xs) (hord : orderedFrom 0 parts.toList = true)
    (hlen : xs.length = n) (hn : n ≤ 65536) (hok : elemsOk E.P e xs = true) (hzo : zeroOk E.P e = true) (hsm : ∀ sz, tySize E.P e = some sz → sz ≤ 256) : Sound E X a w ((execOp a.eval o).run E.P w) (.own xs false) s := by
  obtain ⟨g, sz, hg, hs, hall⟩ := elemsOk_get hok
  obtain ⟨h1, h2⟩ := plainsC_rel h hp
  obtain ⟨z, hz, hzs⟩ : ∃ z, tyZero E.P e = some z ∧ z.cells.size = sz := by
    unfold zeroOk at hzo
    rw [hs] at hzo
    split at hzo
    · rename_i z n h1 h2; cases h2; exact ⟨z, h1, by simpa using hzo⟩
    · cases hzo
  have hsz := hsm sz hs
  have h24 : ¬ (n * sz > 2 ^ 24) := by
    have := Nat.mul_le_mul hn hsz
    omega
  have hparts : (parts.map fun (i, x) => (i, a.eval x)).toList = ((parts.toList.map fun p => a.eval p.2).zipIdx 0).map fun x => (x.2, x.1) := by
    rw [← ordered_zip (E := E) parts.toList 0 a.eval hord]; simp
  have hpl : parts.toList.length = n := by simp at h1; simp; omega
  by_cases hn0 : n = 0
  · subst hn0
    have hx0 : xs = [] := List.eq_nil_of_length_eq_zero hlen
    have hp0 : parts = #[] := by apply Array.ext'; exact List.eq_nil_of_length_eq_zero hpl
    subst hx0 hp0
    have hE : Ext X w X (w.alloc (.cells #[] e)) := by
      refine ⟨rfl, by simp, rfl, rfl, rfl, fun b hb hx => ⟨hx, heap_alloc_old w _ b hb⟩, fun b l k hx => ⟨fun l' k' h' => (by rw [hx] at h'; simp only [Option.some.injEq, Prod.mk.injEq] at h'; omega), fun o _ => cell?_of_heap (heap_alloc_old w _ b (h.gdom b l k hx)) o⟩⟩
    refine ⟨.slice (some ⟨w.heap.size, 0, none⟩) 0 0, w.alloc (.cells #[] e), X, ?_, ⟨[], by simp⟩, hE, h.bg hE rfl (fun l _ _ _ b k hx => ⟨hx, heap_alloc_old w _ b (h.gdom b l k hx)⟩) (fun b l k hx => ⟨by have := h.gdom b l k hx; simp; omega, h.oamb b l k hx⟩), .inl ⟨rfl, _, rfl⟩⟩
    simp [execOp, ho, Instr.buildSlice, run_underlying (tyElem_u he), run_sizeOf' hs, Instr.fill, newRow]
    have e0 : (Array.range 0).map (fun _ : Nat => (default : Value)) = #[] := by apply Array.ext'; simp
    rw [e0]
  · have hne : xs ≠ [] := fun e => hn0 (by rw [← hlen, e]; rfl)
    obtain ⟨x0, hx0⟩ := List.exists_mem_of_ne_nil _ hne
    have hz0 := (hall x0 hx0).2.2.1
    have hval : ∀ (i : Nat) x, xs[i]? = some x → ∃ v, (parts.toList.map fun p => a.eval p.2)[i]? = some v ∧ Rep w X.imm x v := fun i x hx => by
      obtain ⟨y, hy, hr⟩ := h2 i x hx
      refine ⟨a.eval y, ?_, hr⟩
      rw [List.getElem?_map] at hy ⊢
      cases hpi : parts.toList[i]? with
      | none => rw [hpi] at hy; cases hy
      | some p => rw [hpi] at hy; simp at hy; simp [hy]
    have hcs : ∀ v ∈ (parts.toList.map fun p => a.eval p.2), v.cells.size = sz := by
      intro v hv
      obtain ⟨i, hi, rfl⟩ := List.mem_iff_getElem.1 hv
      have hil : i < xs.length := by simp at hi; simp at hpl; omega
      obtain ⟨v', hv', hr⟩ := hval i xs[i] (by simp [hil])
      rw [List.getElem?_eq_getElem hi] at hv'
      cases hv'
      rw [(rep_cells hr).1]
      exact (hall _ (List.getElem_mem _)).1
    let zs : Array Value := (Array.range (n * sz)).map (z.cells[· % z.cells.size]!)
    obtain ⟨out, hf, hos, _, hoi⟩ := fill_seq (P := E.P) (I := X.imm) (w := w) sz hz0 (parts.toList.map fun p => a.eval p.2) 0 zs hcs (by simp [zs]; simp at hpl; rw [hpl]; exact Nat.le_refl _)
    have hosz : out.size = n * sz := by rw [hos]; simp [zs]
    obtain ⟨X', hmu, hE, hR, hO⟩ := h.newOwn (e := e) (lt := false) (xs := xs) (cap := n) (sz := sz) (cur := out) (fun x hx => (hall x hx).1) hz0 hne hosz (by omega) (by unfold maxLen; omega) (fun i x hx j c hj => by
      obtain ⟨v, hv, hr⟩ := hval i x hx
      have hxl := (hall x (List.mem_of_getElem? hx)).1
      have hjl : j < sz := by rw [← hxl]; exact (List.getElem?_eq_some_iff.1 hj).1
      obtain ⟨r1, r2⟩ := rep_cells hr
      have := hoi i v hv j hjl
      rw [Nat.zero_add] at this
      have hjv : j < v.cells.size := by omega
      refine ⟨v.cells[j], by rw [this]; simp [hjv], ?_⟩
      have := r2 j c hj
      simpa [Array.getD, hjv] using this)
    refine ⟨_, _, X', ?_, ⟨[], by simp [hmu]⟩, hE, hR, hO⟩
    have hnz : ¬ (n * sz = 0) := by
      intro e0
      rcases Nat.mul_eq_zero.1 e0 with e1 | e1 <;> omega
    simp only [execOp, ho, Instr.buildSlice, Sem.run_bind, run_underlying (tyElem_u he), Result.andThen_ok, run_sizeOf' hs]
    rw [if_neg h24, if_neg hnz]
    simp only [Sem.run_bind, run_zeroValue' hz, Result.andThen_ok, Sem.run_pure]
    rw [hparts, hf]
    simp [newRow, hlen]

end Go.Ab
