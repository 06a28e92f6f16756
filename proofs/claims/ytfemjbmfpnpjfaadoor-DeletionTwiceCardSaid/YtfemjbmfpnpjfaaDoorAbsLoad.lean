/- Loads. -/
import Derived.Test.YtfemjbmfpnpjfaaDoorAbsOps
namespace Go.Ab

theorem run_isAgg {P : Program} {t : TypeId} {g : Bool} (h : tyAgg P t = some g) (w : World) : (isAgg t).run P w = .ok g w := by
  unfold tyAgg at h
  cases hu : P.underlying t with
  | none => rw [hu] at h; cases h
  | some d =>
    rw [hu] at h
    simp only [isAgg, Sem.run_bind, run_underlying hu, Result.andThen_ok]
    cases d <;> simp_all
theorem run_sizeOf' {P : Program} {t : TypeId} {n : Nat} (h : tySize P t = some n) (w : World) : (sizeOf t).run P w = .ok n w := by
  simp only [tySize, Option.map_eq_some_iff] at h
  obtain ⟨i, hi, rfl⟩ := h
  simp [sizeOf, typeInfo, hi]
theorem run_zeroValue' {P : Program} {t : TypeId} {z : Value} (h : tyZero P t = some z) (w : World) : (zeroValue t).run P w = .ok z w := by
  simp only [tyZero, Option.bind_eq_some_iff] at h
  obtain ⟨i, hi, hz⟩ := h
  simp [zeroValue, typeInfo, hi, hz]

theorem add_lit (b o n : Nat) : (⟨b, o, none⟩ : Addr).add n = ⟨b, o + n, none⟩ := by
  unfold Addr.add; split
  · rename_i h; simp [h]
  · rfl

theorem run_load_cell {P : Program} {w : World} {a : Addr} {v : Value} (h : w.cell? a = some v) : (load a).run P w = .ok v w := by
  simp [load, Sem.run, h]

theorem run_loadVar_one {P : Program} {w : World} {t : TypeId} {b o : Nat} {v : Value} (ht : tyAgg P t = some false) (h : w.cell? ⟨b, o, none⟩ = some v) : (loadVar t ⟨b, o, none⟩).run P w = .ok v w := by
  simp only [loadVar, Sem.run_bind, run_isAgg ht, Result.andThen_ok, Bool.false_eq_true, if_false]
  exact run_load_cell h

theorem run_loadVar_agg {P : Program} {w : World} {t : TypeId} {n b o : Nat} {vs : List Value} (ht : tyAgg P t = some true) (hn : tySize P t = some n) (hl : vs.length = n)
    (h : ∀ (j : Nat) v, vs[j]? = some v → w.cell? ⟨b, o + j, none⟩ = some v) : (loadVar t ⟨b, o, none⟩).run P w = .ok (.agg vs.toArray) w := by
  have := run_loadCells_list (P := P) (w := w) ⟨b, o, none⟩ vs (fun j v hj => by rw [add_lit]; exact h j v hj)
  rw [hl] at this
  simp [loadVar, run_isAgg ht, run_sizeOf' hn, this]

/-- The elements of what is owned lie where the value says. -/
theorem OwnOk.elem {w : World} {X : Cx} {l : Loc} {xs : List D} {lt : Bool} {v : Value} (h : OwnOk w X l xs lt v) {i : Nat} {x : D} (hx : xs[i]? = some x) :
    ∃ b o0 cap, v = .slice (some ⟨b, o0, none⟩) xs.length cap ∧ (∀ y ∈ xs, y.cells.length = x.cells.length) ∧
      ∀ (j : Nat) c, x.cells[j]? = some c → ∃ u, w.cell? ⟨b, o0 + i * x.cells.length + j, none⟩ = some u ∧ Rep w X.imm c u := by
  have hxm := List.mem_of_getElem? hx
  rcases h with ⟨rfl, _⟩ | ⟨_, h2, _⟩ | ⟨b, cap, cur, e, sz, rfl, hg, hw, hs, hz, hne, hsz, hc, hm, hr⟩
  · simp at hx
  · cases h2 with
    | empty a c => simp at hx
    | list _ b off cap sz V hs hc h hr =>
      refine ⟨b, off, cap, rfl, fun y hy => by rw [hs y hy, hs x hxm], fun j c hj => ⟨V i j, ?_, hr i x hx j c hj⟩⟩
      rw [hs x hxm]
      exact (h i x hx j c hj).1
  · refine ⟨b, 0, cap, rfl, fun y hy => by rw [hs y hy, hs x hxm], fun j c hj => ?_⟩
    obtain ⟨u, hu, hru⟩ := hr i x hx j c hj
    refine ⟨u, ?_, hru⟩
    rw [Nat.zero_add, cell_of_row w b _ cur e (0, 0) hw, hs x hxm]
    exact hu

theorem Rel.elt {E : Env0} {X : Cx} {s : St} {a : Act} {w : World} (h : Rel E X s a w) {p : Place} {i off : Nat} {v : Value} (L : Nat → Loc) (hv : RVe X s a w L (.elt p i off) v) {cs : List D} (hc : eltCells s p i off = some cs) :
    ∃ b o, v = .pointer (some ⟨b, o, none⟩) ∧ ∀ (j : Nat) c, cs[j]? = some c → ∃ u, w.cell? ⟨b, o + j, none⟩ = some u ∧ Rep w X.imm c u := by
  unfold eltCells at hc
  generalize hct : content s p = c at hc
  cases c <;> try cases hc
  rename_i xs l
  simp only [Option.map_eq_some_iff] at hc
  obtain ⟨x, hx, rfl⟩ := hc
  obtain ⟨val, hval, hown⟩ := h.place hct (by simp) rfl (by simp) (by simp)
  obtain ⟨b, o0, n, cap, sz, h1, h2, h3⟩ := hv.2 xs l hct
  obtain ⟨b', o0', cap', h4, h5, h6⟩ := OwnOk.elem hown hx
  rw [h1] at hval
  cases hval
  cases h4
  have hsz : sz = x.cells.length := (h2 x (List.mem_of_getElem? hx)).symm
  subst hsz
  refine ⟨b, o0 + i * x.cells.length + off, h3, fun j c hj => ?_⟩
  rw [List.getElem?_drop] at hj
  obtain ⟨u, hu, hru⟩ := h6 (off + j) c hj
  exact ⟨u, by rw [Nat.add_assoc (o0 + i * x.cells.length)]; exact hu, hru⟩

theorem allLent_get : ∀ {cs : List AV}, allLent cs = true → ∀ (j : Nat) xs l, cs[j]? = some (.own xs l) → l = true
  | [], _, j, xs, l, hj => by simp at hj
  | c :: r, h, j, xs, l, hj => by
    cases j with
    | zero =>
      simp at hj; subst hj
      simp only [allLent, Bool.and_eq_true] at h
      exact h.1
    | succ j =>
      have hr : allLent r = true := by
        cases c <;> simp only [allLent, Bool.and_eq_true] at h <;> first | exact h | exact h.2
      exact allLent_get hr j xs l (by simpa using hj)

/-- A part of a variable, all of it lent, read as one value. -/
theorem Rel.cellsRead {E : Env0} {X : Cx} {s : St} {a : Act} {w : World} (h : Rel E X s a w) {o off n : Nat} {cs : List AV} {ds : List D} (hcs : s.heap[o]? = some cs) (hle : off + n ≤ cs.length)
    (hf : freezeAll ((cs.drop off).take n) = some ds) (hl : allLent ((cs.drop off).take n) = true) :
    ∃ b, X.mu[o]? = some b ∧ ∃ vs : List Value, vs.length = n ∧ (∀ (j : Nat) v, vs[j]? = some v → w.cell? ⟨b, off + j, none⟩ = some v) ∧ Rep w X.imm (.agg ds) (.agg vs.toArray) := by
  obtain ⟨b, cur, e, hb, hg, hw, hn, hh⟩ := h.heap o cs hcs
  refine ⟨b, hb, (cur.toList.drop off).take n, by simp; omega, fun j v hj => ?_, ?_⟩
  · rw [cell_of_row w b (off + j) cur e (0, 0) hw]
    rw [List.getElem?_take] at hj
    split at hj
    · rw [List.getElem?_drop] at hj
      simpa using hj
    · cases hj
  · obtain ⟨h3, h4⟩ := freezeAll_get hf
    refine .agg ds _ (by simp at h3 ⊢; omega) (fun j d hj => ?_)
    have hj' : j < n := by
      have := (List.getElem?_eq_some_iff.1 hj).1
      simp at h3; omega
    have hlt : off + j < cs.length := by omega
    have hc : ((cs.drop off).take n)[j]? = some cs[off + j] := by
      rw [List.getElem?_take, if_pos hj', List.getElem?_drop]; simp [hlt]
    obtain ⟨d', hd', hfd⟩ := h4 j _ hc
    rw [hj] at hd'; cases hd'
    have hr := (hh (off + j) cs[off + j] (by simp [hlt])).1
    have hval : (((cur.toList.drop off).take n).toArray).getD j undef = cur.getD (off + j) undef := by
      have : off + j < cur.size := by omega
      simp [Array.getD_eq_getD_getElem?, hj']
    rw [hval]
    generalize hcell : cs[off + j] = c at hc hr hfd
    cases c <;> simp [freezeLeaf] at hfd
    · subst hfd; exact hr
    · rename_i xs l
      subst hfd
      have : l = true := allLent_get hl j xs l hc
      subst this
      exact OwnOk.view h.oamb hr

/-- Lending cell by cell. -/
theorem Rel.lendFrom {E : Env0} {a : Act} {w : World} (o : Nat) : ∀ (n off : Nat) (X : Cx) (s : St) (cs : List AV), Rel E X s a w → s.heap[o]? = some cs →
    ∃ X' cs', X'.mu = X.mu ∧ Ext X w X' w ∧ Rel E X' (lendFrom s o off n) a w ∧ (Go.Ab.lendFrom s o off n).heap[o]? = some cs' ∧ cs'.length = cs.length ∧ (∀ j, off ≤ j → j < off + n → ∀ c, cs[j]? = some c → ∃ c', cs'[j]? = some c' ∧ freezeLeaf c' = freezeLeaf c ∧ ∀ xs l, c' = .own xs l → l = true) ∧
      (∀ j, j < off → cs'[j]? = cs[j]?)
  | 0, off, X, s, cs, h, hcs => ⟨X, cs, rfl, Ext.refl X w, h, hcs, rfl, fun j h1 h2 => by omega, fun j _ => rfl⟩
  | n + 1, off, X, s, cs, h, hcs => by
    simp only [Go.Ab.lendFrom]
    have hgen : ∀ (X1 : Cx) (s1 : St) (cs1 : List AV), X1.mu = X.mu → Ext X w X1 w → Rel E X1 s1 a w → s1.heap[o]? = some cs1 → cs1.length = cs.length → (∀ c, cs[off]? = some c → ∃ c', cs1[off]? = some c' ∧ freezeLeaf c' = freezeLeaf c ∧ ∀ xs l, c' = .own xs l → l = true) → (∀ j, j ≠ off → cs1[j]? = cs[j]?) →
        ∃ X' cs', X'.mu = X.mu ∧ Ext X w X' w ∧ Rel E X' (Go.Ab.lendFrom s1 o (off + 1) n) a w ∧ (Go.Ab.lendFrom s1 o (off + 1) n).heap[o]? = some cs' ∧ cs'.length = cs.length ∧ (∀ j, off ≤ j → j < off + (n + 1) → ∀ c, cs[j]? = some c → ∃ c', cs'[j]? = some c' ∧ freezeLeaf c' = freezeLeaf c ∧ ∀ xs l, c' = .own xs l → l = true) ∧
          (∀ j, j < off → cs'[j]? = cs[j]?) := by
      intro X1 s1 cs1 hmu hE h1 hcs1 hlen hoff hoth
      obtain ⟨X', cs', hmu', hE', h', hcs', hlen', hin, hout⟩ := Rel.lendFrom o n (off + 1) X1 s1 cs1 h1 hcs1
      refine ⟨X', cs', hmu'.trans hmu, Ext.trans h.gdom hE hE', h', hcs', hlen'.trans hlen, fun j h2 h3 c hc => ?_, fun j hj => by rw [hout j (by omega), hoth j (by omega)]⟩
      by_cases e : j = off
      · subst e
        obtain ⟨c', hc', h4⟩ := hoff c hc
        exact ⟨c', by rw [hout j (by omega)]; exact hc', h4⟩
      · exact hin j (by omega) (by omega) c (by rw [hoth j e]; exact hc)
    split
    · rename_i xs hcell
      have hcon : content s (.cell o off) = .own xs false := hcell
      obtain ⟨X1, val, hv, hmu, hE, hR, hrep, hk⟩ := h.lend hcon
      obtain ⟨cs2, h1, h2⟩ := content_cell hcon (by simp)
      rw [hcs] at h1; cases h1
      have hlt := (List.getElem?_eq_some_iff.1 h2).1
      refine hgen X1 _ (cs.set off (.own xs true)) hmu hE hR ?_ (by simp) (fun c hc => ?_) (fun j hj => ?_)
      · simp only [lendPlace, heap_setCellA, if_true, hcs, Option.map_some]
      · rw [h2] at hc; cases hc
        exact ⟨.own xs true, by simp [hlt], rfl, fun ys l e => by cases e; rfl⟩
      · rw [List.getElem?_set_ne (Ne.symm hj)]
    · rename_i hno
      refine hgen X s cs rfl (Ext.refl X w) h hcs rfl (fun c hc => ⟨c, hc, rfl, fun xs l e => ?_⟩) (fun j _ => rfl)
      subst e
      cases l with
      | true => rfl
      | false => exact absurd (by simp [cellOf, hcs, hc]) (hno xs)


/-- What an operand holds. -/
theorem Rel.operand {E : Env0} {X : Cx} {s : St} {a : Act} {w : World} (h : Rel E X s a w) (x : Operand) : ∃ L, RVe X s a w L (ev E s x) (a.eval x) := by
  cases x with
  | tmp t => exact ⟨.slot t, h.env t⟩
  | const v => exact ⟨.res, RVe_of_RVs (constAV_rel w X _ v)⟩
  | global g =>
    refine ⟨.res, ?_⟩
    simp only [ev]
    split
    · rename_i cs hg
      exact ⟨g, 0, rfl, fun j c hj => by simpa using h.glob g cs hg j c hj⟩
    · trivial
  | func f => exact ⟨.res, ⟨#[], rfl, rfl, fun j o a hj => by simp at hj⟩⟩

theorem Rel.ptr {E : Env0} {X : Cx} {s : St} {a : Act} {w : World} (h : Rel E X s a w) {x : Operand} {o off : Nat} (hx : ev E s x = .ptr o off) : ∃ b, X.mu[o]? = some b ∧ a.eval x = .pointer (some ⟨b, off, none⟩) := by
  obtain ⟨L, hr⟩ := h.operand x
  rw [hx] at hr
  exact hr

theorem Rel.viewp {E : Env0} {X : Cx} {s : St} {a : Act} {w : World} (h : Rel E X s a w) {x : Operand} {cs : List D} (hx : ev E s x = .view cs) :
    ∃ b off, a.eval x = .pointer (some ⟨b, off, none⟩) ∧ ∀ (j : Nat) c, cs[j]? = some c → ∃ u, w.cell? ⟨b, off + j, none⟩ = some u ∧ X.imm b (off + j) ∧ Rep w X.imm c u := by
  obtain ⟨L, hr⟩ := h.operand x
  rw [hx] at hr
  exact hr

theorem run_exec_load {P : Program} {o : Oper} {t : TypeId} {x : Operand} {a : Act} {w : World} {b off : Nat} {val : Value} (ho : o.op = .load t x) (hx : a.eval x = .pointer (some ⟨b, off, none⟩))
    (hl : (loadVar t ⟨b, off, none⟩).run P w = .ok val w) : (execOp a.eval o).run P w = .ok (.value val) w := by
  simp [execOp, ho, hx, Instr.loadAt, Instr.sureAddr, hl]

theorem Rel.noTup {E : Env0} {X : Cx} {s : St} {a : Act} {w : World} (h : Rel E X s a w) {o off : Nat} {cs : List AV} (hc : content s (.cell o off) = .tup cs) : False := by
  obtain ⟨cs', h1, h2⟩ := content_cell hc (by simp)
  obtain ⟨b, cur, e, hb, hg, hw, hn, hh⟩ := h.heap o cs' h1
  exact (hh off _ h2).1

theorem Rel.noElt {E : Env0} {X : Cx} {s : St} {a : Act} {w : World} (h : Rel E X s a w) {o off : Nat} {q : Place} {i j : Nat} (hc : content s (.cell o off) = .elt q i j) : False := by
  obtain ⟨cs', h1, h2⟩ := content_cell hc (by simp)
  obtain ⟨b, cur, e, hb, hg, hw, hn, hh⟩ := h.heap o cs' h1
  exact (hh off _ h2).1

theorem Rel.noAgg {E : Env0} {X : Cx} {s : St} {a : Act} {w : World} (h : Rel E X s a w) {o off : Nat} {cs : List AV} (hc : content s (.cell o off) = .agg cs) : False := by
  obtain ⟨cs', h1, h2⟩ := content_cell hc (by simp)
  obtain ⟨b, cur, e, hb, hg, hw, hn, hh⟩ := h.heap o cs' h1
  exact (hh off _ h2).1

/-- Cells that are known, read as one value. -/
theorem cells_agg {P : Program} {w : World} {X : Cx} {t : TypeId} {n b off : Nat} {cs : List D} (ht : tyAgg P t = some true) (hn : tySize P t = some n) (hle : n ≤ cs.length)
    (hh : ∀ (j : Nat) c, cs[j]? = some c → ∃ u, w.cell? ⟨b, off + j, none⟩ = some u ∧ Rep w X.imm c u) :
    ∃ vs : Array Value, (loadVar t ⟨b, off, none⟩).run P w = .ok (.agg vs) w ∧ Rep w X.imm (.agg (cs.take n)) (.agg vs) := by
  let f : Nat → Value := fun j => (w.cell? ⟨b, off + j, none⟩).getD undef
  have hf : ∀ (j : Nat) c, cs[j]? = some c → w.cell? ⟨b, off + j, none⟩ = some (f j) ∧ Rep w X.imm c (f j) := fun j c hj => by
    obtain ⟨u, hu, hr⟩ := hh j c hj
    have : f j = u := by simp [f, hu]
    rw [this]; exact ⟨hu, hr⟩
  refine ⟨((List.range n).map f).toArray, run_loadVar_agg ht hn (by simp) (fun j v hj => ?_), .agg _ _ (by simp; omega) (fun j c hj => ?_)⟩
  · simp only [List.getElem?_map, Option.map_eq_some_iff] at hj
    obtain ⟨k, hk, rfl⟩ := hj
    have hjn : j < n := by have := (List.getElem?_eq_some_iff.1 hk).1; simpa using this
    have : k = j := by rw [List.getElem?_range hjn] at hk; cases hk; rfl
    subst this
    have hlt : k < cs.length := by omega
    exact (hf k cs[k] (by simp [hlt])).1
  · rw [List.getElem?_take] at hj
    split at hj
    · rename_i hjn
      have : (((List.range n).map f).toArray).getD j undef = f j := by simp [Array.getD_eq_getD_getElem?, hjn]
      rw [this]
      exact (hf j c hj).2
    · cases hj

theorem load_sound {E : Env0} {X : Cx} {s s1 : St} {a : Act} {w : World} {fl : Flag} {q : Bool} {t : TypeId} {x : Operand} {v : AV} (h : Rel E X s a w) (o : Oper) (ho : o.op = .load t x)
    (hp : loadOp E fl q t (ev E s x) s = some (v, s1)) : Sound E X a w ((execOp a.eval o).run E.P w) v s1 := by
  unfold loadOp at hp
  cases ht : tyAgg E.P t with
  | none => simp [ht] at hp
  | some g =>
    cases g with
    | false =>
      simp only [ht] at hp
      generalize hx : ev E s x = c at hp
      cases c with
      | ptr ob off =>
        obtain ⟨b, hb, hev⟩ := h.ptr hx
        have hp' : readPlace fl q s (.cell ob off) = some (v, s1) := by simpa using hp
        -- the cell is there
        have hcell : ∃ u, cval X a w (.cell ob off) = some u := by
          by_cases hu : content s (.cell ob off) = .undef
          · unfold readPlace at hp'; simp [hu] at hp'
          · obtain ⟨cs, h1, h2⟩ := content_cell rfl hu
            obtain ⟨b', cur, e, hb', hg, hw, hn, hh⟩ := h.heap ob cs h1
            have hlt : off < cur.size := by rw [hn]; exact (List.getElem?_eq_some_iff.1 h2).1
            exact ⟨cur[off], by simp [cval, hb', cell_of_row w b' off cur e (0, 0) hw, hlt]⟩
        obtain ⟨u, hu⟩ := hcell
        have hu' : w.cell? ⟨b, off, none⟩ = some u := by simpa [cval, hb] using hu
        exact readPlace_sound (val := u) h hp' (fun u' h' => by rw [hu] at h'; cases h'; rfl) (run_exec_load ho hev (run_loadVar_one ht hu')) (fun cs hc => (h.noTup hc).elim) (fun q i off hc => (h.noElt hc).elim)
      | view cs =>
        cases cs with
        | nil => cases tySize E.P t <;> simp at hp
        | cons c r =>
          have hp' : v = .d c ∧ s1 = s := by cases tySize E.P t <;> simp at hp <;> exact ⟨hp.1.symm, hp.2.symm⟩
          obtain ⟨rfl, rfl⟩ := hp'
          obtain ⟨b, off, hev, hh⟩ := h.viewp hx
          obtain ⟨u, h1, h2, h3⟩ := hh 0 c rfl
          exact Sound.same h (run_exec_load ho hev (run_loadVar_one ht h1)) (RVe_d h3)
      | elt p i off =>
        have hp' : ∃ c r, eltCells s p i off = some (c :: r) ∧ v = .d c ∧ s1 = s := by
          cases hz : eltCells s p i off with
          | none => cases tySize E.P t <;> simp [hz] at hp
          | some l =>
            cases l with
            | nil => cases tySize E.P t <;> simp [hz] at hp
            | cons c r =>
              have hq : some (AV.d c, s) = some (v, s1) := by cases hy : tySize E.P t <;> simpa [hy, hz] using hp
              simp only [Option.some.injEq, Prod.mk.injEq] at hq
              exact ⟨c, r, rfl, hq.1.symm, hq.2.symm⟩
        obtain ⟨c, r, h1, rfl, rfl⟩ := hp'
        obtain ⟨L, hr⟩ := h.operand x
        rw [hx] at hr
        obtain ⟨b, o', hev, hh⟩ := h.elt L hr h1
        obtain ⟨u, h2, h3⟩ := hh 0 c rfl
        exact Sound.same h (run_exec_load ho hev (run_loadVar_one ht h2)) (RVe_d h3)
      | _ => cases tySize E.P t <;> simp at hp
    | true =>
      cases hn : tySize E.P t with
      | none => simp [ht, hn] at hp
      | some n =>
        simp only [ht, hn] at hp
        generalize hx : ev E s x = c at hp
        cases c with
        | ptr ob off =>
          obtain ⟨b, hb, hev⟩ := h.ptr hx
          simp only at hp
          cases hcs : s.heap[ob]? with
          | none => simp [hcs] at hp
          | some cs =>
            simp only [hcs] at hp
            split at hp
            · rename_i hle
              cases hf : freezeAll ((cs.drop off).take n) with
              | none => simp [hf] at hp
              | some ds =>
                simp only [hf] at hp
                split at hp
                · rename_i hl
                  simp only [Option.some.injEq, Prod.mk.injEq] at hp
                  obtain ⟨rfl, rfl⟩ := hp
                  obtain ⟨b', hb', vs, h1, h2, h3⟩ := h.cellsRead hcs hle hf hl
                  rw [hb] at hb'; cases hb'
                  exact Sound.same h (run_exec_load ho hev (run_loadVar_agg ht hn h1 h2)) (RVe_d h3)
                · split at hp
                  · cases hp
                  · simp only [Option.some.injEq, Prod.mk.injEq] at hp
                    obtain ⟨rfl, rfl⟩ := hp
                    obtain ⟨X', cs', hmu, hE, hR, hcs', hlen, hin, _⟩ := Rel.lendFrom ob n off X s cs h hcs
                    have hgetj : ∀ (j : Nat), j < n → ∃ c c', cs[off + j]? = some c ∧ cs'[off + j]? = some c' ∧ freezeLeaf c' = freezeLeaf c ∧ ∀ xs l, c' = .own xs l → l = true := fun j hj => by
                      have hlt : off + j < cs.length := by omega
                      obtain ⟨c', h1, h2, h3⟩ := hin (off + j) (by omega) (by omega) cs[off + j] (by simp [hlt])
                      exact ⟨_, c', by simp [hlt], h1, h2, h3⟩
                    have hf' : freezeAll ((cs'.drop off).take n) = some ds := by
                      have key : ∀ (l1 l2 : List AV), l1.length = l2.length → (∀ (j : Nat) c1 c2, l1[j]? = some c1 → l2[j]? = some c2 → freezeLeaf c1 = freezeLeaf c2) → freezeAll l1 = freezeAll l2 := by
                        intro l1
                        induction l1 with
                        | nil => intro l2 hl _; cases l2 with | nil => rfl | cons => simp at hl
                        | cons c r ih =>
                          intro l2 hl hh
                          cases l2 with
                          | nil => simp at hl
                          | cons c2 r2 =>
                            simp only [freezeAll]
                            rw [hh 0 c c2 rfl rfl, ih r2 (by simpa using hl) (fun j c1 c2 h1 h2 => hh (j + 1) c1 c2 (by simpa using h1) (by simpa using h2))]
                      rw [← hf]
                      refine key _ _ (by simp; omega) (fun j c1 c2 h1 h2 => ?_)
                      rw [List.getElem?_take] at h1 h2
                      split at h1
                      · rename_i hj
                        rw [if_pos hj] at h2
                        rw [List.getElem?_drop] at h1 h2
                        obtain ⟨c, c', g1, g2, g3, _⟩ := hgetj j hj
                        rw [g2] at h1; rw [g1] at h2
                        cases h1; cases h2
                        exact g3
                      · cases h1
                    have hl' : allLent ((cs'.drop off).take n) = true := by
                      have key : ∀ (l1 : List AV), (∀ (j : Nat) xs l, l1[j]? = some (.own xs l) → l = true) → allLent l1 = true := by
                        intro l1
                        induction l1 with
                        | nil => intro _; rfl
                        | cons c r ih =>
                          intro hh
                          have hr := ih (fun j xs l h1 => hh (j + 1) xs l (by simpa using h1))
                          cases c <;> simp only [allLent, Bool.and_eq_true] <;> first | exact hr | exact ⟨hh 0 _ _ rfl, hr⟩
                      refine key _ (fun j xs l h1 => ?_)
                      rw [List.getElem?_take] at h1
                      split at h1
                      · rename_i hj
                        rw [List.getElem?_drop] at h1
                        obtain ⟨c, c', g1, g2, g3, g4⟩ := hgetj j hj
                        rw [g2] at h1
                        cases h1
                        exact g4 xs l rfl
                      · cases h1
                    obtain ⟨b', hb', vs, h1, h2, h3⟩ := hR.cellsRead hcs' (by omega) hf' hl'
                    rw [hmu, hb] at hb'; cases hb'
                    exact ⟨_, w, X', run_exec_load ho hev (run_loadVar_agg ht hn h1 h2), ⟨[], by simp [hmu]⟩, hE, hR, RVe_d h3⟩
            · cases hp
        | view cs =>
          simp only at hp
          split at hp
          · rename_i hle
            simp only [Option.some.injEq, Prod.mk.injEq] at hp
            obtain ⟨rfl, rfl⟩ := hp
            obtain ⟨b, off, hev, hh⟩ := h.viewp hx
            obtain ⟨vs, h1, h2⟩ := cells_agg (P := E.P) ht hn hle (fun j c hj => let ⟨u, g1, _, g3⟩ := hh j c hj; ⟨u, g1, g3⟩)
            exact Sound.same h (run_exec_load ho hev h1) (RVe_d h2)
          · cases hp
        | elt p i off =>
          simp only at hp
          cases hc : eltCells s p i off with
          | none => simp [hc] at hp
          | some cs =>
            simp only [hc] at hp
            split at hp
            · rename_i hle
              simp only [Option.some.injEq, Prod.mk.injEq] at hp
              obtain ⟨rfl, rfl⟩ := hp
              obtain ⟨L, hr⟩ := h.operand x
              rw [hx] at hr
              obtain ⟨b, o', hev, hh⟩ := h.elt L hr hc
              obtain ⟨vs, h1, h2⟩ := cells_agg (P := E.P) ht hn hle hh
              exact Sound.same h (run_exec_load ho hev h1) (RVe_d h2)
            · cases hp
        | _ => simp at hp

end Go.Ab
