/- Operands, places, loads: what the abstract machine reads is what the model reads. -/
import Derived.Test.YtfemjbmfpnpjfaaDoorAbsRel
namespace Go.Ab

theorem constLeaf_rel (w : World) (X : Cx) (l : Loc) (v : Value) : RVl w X l (constLeaf v) v := by
  cases v with
  | slice a n c =>
    cases a with
    | none =>
      cases n with
      | zero => cases c with
        | zero => exact .inl ⟨rfl, none, rfl⟩
        | succ c => trivial
      | succ n => trivial
    | some a => trivial
  | pointer a => cases a with
    | none => exact .v _ rfl
    | some a => trivial
  | map a => cases a with
    | none => exact .v _ rfl
    | some a => trivial
  | chan a => cases a with
    | none => exact .v _ rfl
    | some a => trivial
  | agg c => trivial
  | tuple c => trivial
  | func f a b => trivial
  | iface a b => trivial
  | _ => exact .v _ rfl

theorem constLeaf_freeze {w : World} {I : Nat → Nat → Prop} {v : Value} {d : D} (h : freezeLeaf (constLeaf v) = some d) : Rep w I d v := by
  cases v with
  | slice a n c =>
    cases a with
    | none =>
      cases n with
      | zero => cases c with
        | zero => simp [constLeaf, freezeLeaf] at h; subst h; exact .empty none 0
        | succ c => simp [constLeaf, freezeLeaf] at h
      | succ n => simp [constLeaf, freezeLeaf] at h
    | some a => simp [constLeaf, freezeLeaf] at h
  | pointer a => cases a with
    | none => simp [constLeaf, freezeLeaf] at h; subst h; exact .v _ rfl
    | some a => simp [constLeaf, freezeLeaf] at h
  | map a => cases a with
    | none => simp [constLeaf, freezeLeaf] at h; subst h; exact .v _ rfl
    | some a => simp [constLeaf, freezeLeaf] at h
  | chan a => cases a with
    | none => simp [constLeaf, freezeLeaf] at h; subst h; exact .v _ rfl
    | some a => simp [constLeaf, freezeLeaf] at h
  | agg c => simp [constLeaf, freezeLeaf] at h
  | tuple c => simp [constLeaf, freezeLeaf] at h
  | func f a b => simp [constLeaf, freezeLeaf] at h
  | iface a b => simp [constLeaf, freezeLeaf] at h
  | _ => simp [constLeaf, freezeLeaf] at h; subst h; exact .v _ rfl

theorem freezeAll_get : ∀ {cs : List AV} {ds : List D}, freezeAll cs = some ds → ds.length = cs.length ∧ ∀ (j : Nat) c, cs[j]? = some c → ∃ d, ds[j]? = some d ∧ freezeLeaf c = some d
  | [], ds, h => by simp [freezeAll] at h; subst h; exact ⟨rfl, fun j c hj => by simp at hj⟩
  | c :: r, ds, h => by
    simp only [freezeAll] at h
    cases h1 : freezeLeaf c with
    | none => simp [h1] at h
    | some x =>
      cases h2 : freezeAll r with
      | none => simp [h1, h2] at h
      | some xs =>
        simp [h1, h2] at h
        subst h
        obtain ⟨h3, h4⟩ := freezeAll_get h2
        refine ⟨by simp [h3], fun j c' hj => ?_⟩
        cases j with
        | zero => simp at hj; subst hj; exact ⟨x, rfl, h1⟩
        | succ j => simpa using h4 j c' (by simpa using hj)

theorem freeze_leaf (v : Value) : freeze (constLeaf v) = freezeLeaf (constLeaf v) := by unfold constLeaf; split <;> rfl

theorem const_freeze {w : World} {I : Nat → Nat → Prop} {v : Value} {d : D} (h : freeze (constAV v) = some d) : Rep w I d v := by
  cases v with
  | agg cs =>
    simp only [constAV, freeze] at h
    cases hf : freezeAll (cs.toList.map constLeaf) with
    | none => simp [hf] at h
    | some ds =>
      simp [hf] at h
      subst h
      obtain ⟨h3, h4⟩ := freezeAll_get hf
      refine .agg ds cs (by simp at h3; omega) (fun j c hj => ?_)
      have hlt : j < cs.size := by
        obtain ⟨h5, _⟩ := List.getElem?_eq_some_iff.1 hj
        simp at h3; omega
      obtain ⟨d, hd, hfd⟩ := h4 j (constLeaf cs[j]) (by simp [hlt])
      rw [hj] at hd
      cases hd
      have : cs.getD j undef = cs[j] := by simp [Array.getD, hlt]
      rw [this]
      exact constLeaf_freeze hfd
  | _ => exact constLeaf_freeze (by rw [← freeze_leaf]; exact h)

theorem RVs_leaf {w : World} {X : Cx} {L : Nat → Loc} {c : AV} {v : Value} (h : RVl w X (L 0) c v) : RVs w X L c v := by
  cases c with
  | agg cs => exact (h : False).elim
  | tup cs => exact (h : False).elim
  | _ => exact h

theorem constAV_leaf (v : Value) (h : ∀ cs, v ≠ .agg cs) : constAV v = constLeaf v := by
  unfold constAV
  split
  · rename_i cs; exact absurd rfl (h cs)
  · rfl

theorem constAV_rel (w : World) (X : Cx) (L : Nat → Loc) (v : Value) : RVs w X L (constAV v) v := by
  by_cases hv : ∃ cs, v = .agg cs
  · obtain ⟨cs, rfl⟩ := hv
    refine ⟨cs, rfl, by simp, fun j c hj => ?_⟩
    simp only [List.getElem?_map, Array.getElem?_toList, Option.map_eq_some_iff] at hj
    obtain ⟨u, hu, rfl⟩ := hj
    have : cs.getD j undef = u := by simp [Array.getD_eq_getD_getElem?, hu]
    rw [this]
    exact constLeaf_rel w X _ u
  · rw [constAV_leaf v (fun cs e => hv ⟨cs, e⟩)]
    exact RVs_leaf (constLeaf_rel w X (L 0) v)

/-- An operand's value. -/
theorem ev_rel {E : Env0} {X : Cx} {s : St} {a : Act} {w : World} (h : Rel E X s a w) {x : Operand} {d : D} (hd : plainC E s x = some d) : Rep w X.imm d (a.eval x) := by
  cases x with
  | tmp t =>
    simp only [plainC, ev] at hd
    have ht := h.env t
    generalize get s.env t = c at hd ht
    cases c <;> simp [plain] at hd
    subst hd
    exact ht
  | const v => exact const_freeze hd
  | global g =>
    simp only [plainC, ev] at hd
    split at hd <;> simp [plain] at hd
  | func f => simp [plainC, ev, plain] at hd

theorem plainsC_rel {E : Env0} {X : Cx} {s : St} {a : Act} {w : World} (h : Rel E X s a w) : ∀ {l : List Operand} {ds : List D}, plainsC E s l = some ds →
    ds.length = l.length ∧ ∀ (i : Nat) d, ds[i]? = some d → ∃ x, l[i]? = some x ∧ Rep w X.imm d (a.eval x)
  | [], ds, hd => by simp [plainsC] at hd; subst hd; exact ⟨rfl, fun i d hi => by simp at hi⟩
  | x :: l, ds, hd => by
    simp only [plainsC] at hd
    cases h1 : plainC E s x with
    | none => simp [h1] at hd
    | some d0 =>
      cases h2 : plainsC E s l with
      | none => simp [h1, h2] at hd
      | some dr =>
        simp [h1, h2] at hd
        subst hd
        obtain ⟨h3, h4⟩ := plainsC_rel h h2
        refine ⟨by simp [h3], fun i d hi => ?_⟩
        cases i with
        | zero => simp at hi; subst hi; exact ⟨x, rfl, ev_rel h h1⟩
        | succ i => simpa using h4 i d (by simpa using hi)

theorem rep_value {w : World} {I : Nat → Nat → Prop} {x v : Value} (h : Rep w I (.v x) v) : v = x := by cases h; rfl


/-- What an operation comes to: its value, a world, and the relation. -/
def Sound (E : Env0) (X : Cx) (a : Act) (w : World) (r : Result Next) (v : AV) (s1 : St) : Prop :=
  ∃ val w1 X1, r = .ok (.value val) w1 ∧ (∃ more, X1.mu = X.mu ++ more) ∧ Ext X w X1 w1 ∧ Rel E X1 s1 a w1 ∧ RVe X1 s1 a w1 .res v val

/-- Nothing changes. -/
theorem Sound.same {E : Env0} {X : Cx} {s : St} {a : Act} {w : World} {r : Result Next} {v : AV} {val : Value} (h : Rel E X s a w) (hr : r = .ok (.value val) w) (hv : RVe X s a w .res v val) : Sound E X a w r v s :=
  ⟨val, w, X, hr, ⟨[], by simp⟩, Ext.refl X w, h, hv⟩

theorem RVe_d {X : Cx} {s : St} {a : Act} {w : World} {L : Nat → Loc} {d : D} {v : Value} (h : Rep w X.imm d v) : RVe X s a w L (.d d) v := h

/-- An owned content of which a view is out already. -/
theorem OwnOk.view {X : Cx} {w : World} {l : Loc} {xs : List D} {v : Value} (hamb : ∀ b l k, X.G b = some (l, k) → ∀ o, X.amb b o) (ho : OwnOk w X l xs true v) : Rep w X.imm (.list xs) v := by
  rcases ho with ⟨rfl, a, rfl⟩ | ⟨_, h2, _⟩ | ⟨b, cap, cur, e, sz, rfl, hg, hw, hs, hz, hne, hsz, hc, hm, hr⟩
  · exact .empty a 0
  · exact h2
  · simp only [if_true] at hg
    refine .list xs b 0 cap sz (fun i j => cur.getD (i * sz + j) undef) hs hc (fun i x hx' j c hj => ?_) (fun i x hx' j c hj => ?_)
    · obtain ⟨u, hu, _⟩ := hr i x hx' j c hj
      refine ⟨?_, hamb b _ _ hg _, fun l k e => ?_⟩
      · rw [Nat.zero_add, cell_of_row w b _ cur e (0, 0) hw, hu]
        simp [Array.getD_eq_getD_getElem?, hu]
      · rw [hg] at e
        simp only [Option.some.injEq, Prod.mk.injEq] at e
        obtain ⟨-, rfl⟩ := e
        have hi : i < xs.length := (List.getElem?_eq_some_iff.1 hx').1
        have hj' : j < sz := by rw [← hs x (List.mem_of_getElem? hx')]; exact (List.getElem?_eq_some_iff.1 hj).1
        have : (i + 1) * sz ≤ xs.length * sz := Nat.mul_le_mul_right _ hi
        rw [Nat.add_mul] at this
        omega
    · obtain ⟨u, hu, hru⟩ := hr i x hx' j c hj
      have : cur.getD (i * sz + j) undef = u := by simp [Array.getD_eq_getD_getElem?, hu]
      rw [this]
      exact hru

/-- An owned content is lent: from now on its cells are read alone. -/
theorem OwnOk.lend {X : Cx} {w : World} {l : Loc} {xs : List D} {v : Value} (ho : OwnOk w X l xs false v) :
    ∃ X' : Cx, X'.mu = X.mu ∧ X'.amb = X.amb ∧ Ext X w X' w ∧ OwnOk w X' l xs true v ∧ (∀ b l' k, X'.G b = some (l', k) → ∃ k', X.G b = some (l', k')) ∧ (∀ b l' k, l' ≠ l → X.G b = some (l', k) → X'.G b = some (l', k)) := by
  rcases ho with h0 | ⟨h1, _⟩ | ⟨b, cap, cur, e, sz, rfl, hg, hw, hs, hz, hne, hsz, hc, hm, hr⟩
  · exact ⟨X, rfl, rfl, Ext.refl X w, .inl h0, fun b l' k e => ⟨k, e⟩, fun b l' k _ e => e⟩
  · cases h1
  · simp only [Bool.false_eq_true, if_false] at hg
    have hE : Ext X w (X.lockAt b l (xs.length * sz)) w := by
      refine ⟨rfl, Nat.le_refl _, rfl, rfl, rfl, fun b' hb hn => ⟨?_, rfl⟩, fun b' l' k hk => ⟨fun l1 k1 h1 => ?_, fun _ _ => rfl⟩⟩
      · have : b' ≠ b := fun e => by rw [e, hg] at hn; cases hn
        simp [Cx.lockAt, this, hn]
      · simp only [Cx.lockAt] at h1
        split at h1
        · rename_i e1
          subst e1
          rw [hg] at hk
          simp only [Option.some.injEq, Prod.mk.injEq] at hk
          omega
        · rw [hk] at h1
          simp only [Option.some.injEq, Prod.mk.injEq] at h1
          omega
    refine ⟨X.lockAt b l (xs.length * sz), rfl, rfl, hE, .inr (.inr ⟨b, cap, cur, e, sz, rfl, by simp [Cx.lockAt], hw, hs, hz, hne, hsz, hc, hm, fun i x hx j c hj => let ⟨u, hu, hru⟩ := hr i x hx j c hj; ⟨u, hu, hE.rep hru⟩⟩), fun b' l' k h1 => ?_, fun b' l' k hne' h1 => ?_⟩
    · simp only [Cx.lockAt] at h1
      split at h1
      · rename_i e1
        simp only [Option.some.injEq, Prod.mk.injEq] at h1
        exact ⟨0, by rw [e1, hg, h1.1]⟩
      · exact ⟨k, h1⟩
    · have : b' ≠ b := fun e => by rw [e, hg] at h1; simp only [Option.some.injEq, Prod.mk.injEq] at h1; exact hne' h1.1.symm
      simp [Cx.lockAt, this, h1]


def locOf : Place → Loc
  | .slot t => .slot t 0
  | .cell o off => .cell o off

theorem content_cell {s : St} {o off : Nat} {c : AV} (h : content s (.cell o off) = c) (hc : c ≠ .undef) : ∃ cs, s.heap[o]? = some cs ∧ cs[off]? = some c := by
  simp only [content, cellOf] at h
  cases hcs : s.heap[o]? with
  | none => rw [hcs] at h; exact absurd h.symm hc
  | some cs =>
    rw [hcs] at h
    simp only at h
    cases hoff : cs[off]? with
    | none => rw [hoff] at h; exact absurd h.symm hc
    | some c' => rw [hoff] at h; exact ⟨cs, rfl, by rw [← h]; exact hoff⟩

/-- What is at a place. -/
theorem Rel.place {E : Env0} {X : Cx} {s : St} {a : Act} {w : World} (h : Rel E X s a w) {p : Place} {c : AV} (hc : content s p = c) (hu : c ≠ .undef) (hp : c.placed = false) (ha : ∀ cs, c ≠ .agg cs) (htp : ∀ cs, c ≠ .tup cs) :
    ∃ val, cval X a w p = some val ∧ RVl w X (locOf p) c val := by
  cases p with
  | slot t =>
    have ht := h.env t
    have hb := h.bound t ⟨c, hc, hu⟩
    simp only [content] at hc
    rw [hc] at ht
    have hs := RVs_of_RVe hp ht
    refine ⟨a.tmps.getD t undef, by simp [cval, Array.getD_eq_getD_getElem?, hb], ?_⟩
    cases c with
    | agg cs => exact absurd rfl (ha cs)
    | tup cs => exact absurd rfl (htp cs)
    | _ => exact hs
  | cell o off =>
    obtain ⟨cs, h1, h2⟩ := content_cell hc hu
    obtain ⟨b, cur, e, hb, hg, hw, hn, hh⟩ := h.heap o cs h1
    have hlt : off < cur.size := by rw [hn]; exact (List.getElem?_eq_some_iff.1 h2).1
    refine ⟨cur.getD off undef, ?_, (hh off c h2).1⟩
    simp only [cval, hb]
    rw [cell_of_row w b off cur e (0, 0) hw]
    simp [Array.getD_eq_getD_getElem?, hlt]

theorem heap_setCellA (h : Heap) (o off : Nat) (v : AV) (o' : Nat) : (setCellA h o off v)[o']? = if o = o' then (h[o]?).map (fun cs => cs.set off v) else h[o']? := by
  unfold setCellA
  cases ho : h[o]? with
  | none => by_cases e : o = o' <;> simp [e]; rw [← e]; simpa using ho
  | some cs =>
    simp only [List.getElem?_set]
    have hlt := (List.getElem?_eq_some_iff.1 ho).1
    by_cases e : o = o' <;> simp [e]
    subst e; simp [hlt]

/-- What is owned at a place turns, its value stays. -/
theorem Rel.ownUpdate {E : Env0} {X X' : Cx} {s : St} {a : Act} {w w' : World} (h : Rel E X s a w) {p : Place} {xs ys : List D} {l0 l1 : Bool} {val : Value} (hc : content s p = .own xs l0)
    (hv : cval X a w p = some val) (hmu : X'.mu = X.mu) (hE : Ext X w X' w') (hk : ∀ l, l ≠ locOf p → KeptAt X w X' w' l) (hd : ∀ b l k, X'.G b = some (l, k) → b < w'.heap.size ∧ ∀ o, X'.amb b o)
    (ho : OwnOk w' X' (locOf p) ys l1 val) (hsz : ∀ sz, (∀ x ∈ xs, x.cells.length = sz) → ∀ y ∈ ys, y.cells.length = sz) :
    Rel E X' (lendPlace s p (.own ys l1)) a w' := by
  have hm : ∀ (o : Nat) b, X.mu[o]? = some b → X'.mu[o]? = some b := fun o b e => by rw [hmu]; exact e
  have hcv : ∀ q, inR s q → cval X' a w' q = cval X a w q := fun q hq => by
    cases q with
    | slot t => rfl
    | cell o off =>
      simp only [cval, hmu]
      have ho' := hq o off rfl
      obtain ⟨b, cur, e, hb, hg, hw, _⟩ := h.heap o s.heap[o] (by simp [ho'])
      simp only [hb]
      exact cell?_of_heap (hk (.blk o) (by cases p <;> simp [locOf]) b 0 hg).2 off
  have hct : ∀ q, content (lendPlace s p (.own ys l1)) q = if q = p then .own ys l1 else content s q := by
    intro q
    cases p with
    | slot t =>
      cases q with
      | slot u =>
        simp only [content, lendPlace, get_setE]
        by_cases e : t = u <;> simp [e]
        exact fun e' => absurd e'.symm e
      | cell o off => simp [content, lendPlace]
    | cell o off =>
      cases q with
      | slot u => simp [content, lendPlace]
      | cell o' off' =>
        obtain ⟨cs, h1, h2⟩ := content_cell hc (by simp)
        have hlt := (List.getElem?_eq_some_iff.1 h2).1
        simp only [content, lendPlace, cellOf, heap_setCellA]
        by_cases e : o = o'
        · subst e
          simp only [if_true, h1, Option.map_some, List.getElem?_set]
          by_cases e2 : off = off'
          · subst e2; simp [hlt]
          · have : ¬ (Place.cell o off' = Place.cell o off) := fun e3 => by cases e3; exact e2 rfl
            simp [e2, this]
        · have : ¬ (Place.cell o' off' = Place.cell o off) := fun e3 => by cases e3; exact e rfl
          simp [e, this]
  have hlen' : (lendPlace s p (.own ys l1)).heap.length = s.heap.length := by
    cases p with
    | slot t => rfl
    | cell o off => simp only [lendPlace, setCellA]; split <;> simp
  have hplaced : ∀ (L : Nat → Loc) (c : AV) (x : Value), RVe X s a w L c x → c.placed = true → RVe X' (lendPlace s p (.own ys l1)) a w' L c x := by
    intro L c x hx hp
    cases c with
    | loc q =>
      refine ⟨fun o' off' e' => by have := hx.1 o' off' e'; rw [hlen']; exact this, fun hq => ?_⟩
      rw [hct] at hq
      rw [hcv q hx.1]
      refine hx.2 ?_
      by_cases e : q = p
      · rw [e, hc]; rfl
      · simpa [e] using hq
    | elt q i off =>
      refine ⟨fun o' off' e' => by have := hx.1 o' off' e'; rw [hlen']; exact this, fun zs l hq => ?_⟩
      rw [hct] at hq
      rw [hcv q hx.1]
      by_cases e : q = p
      · subst e
        simp only [if_true, AV.own.injEq] at hq
        obtain ⟨rfl, rfl⟩ := hq
        obtain ⟨b, o0, n, cap, sz, g1, g2, g3⟩ := hx.2 xs l0 hc
        exact ⟨b, o0, n, cap, sz, g1, hsz sz g2, g3⟩
      · exact hx.2 zs l (by simpa [e] using hq)
    | _ => cases hp
  have hent : ∀ u, get (lendPlace s p (.own ys l1)).env u = if Place.slot u = p then .own ys l1 else get s.env u := fun u => by
    have := hct (.slot u); simpa [content] using this
  refine ⟨fun u => ?_, fun u hu => ?_, by rw [hmu, h.mu, hlen'], fun o cs hcs => ?_, fun b l k e => (hd b l k e).1, fun b o hb => by rw [hE.amb]; exact h.amb b o (Nat.le_trans hE.size hb), fun b l k e => (hd b l k e).2, fun g cs hg j c hj => ?_, h.defers⟩
  · have hu := h.env u
    rw [hent]
    by_cases e : Place.slot u = p
    · subst e
      simp only [if_true]
      have hval : a.tmps.getD u undef = val := by simp [cval] at hv; simp [Array.getD_eq_getD_getElem?, hv]
      rw [hval]
      exact ho
    · simp only [e, if_false]
      by_cases hp : (get s.env u).placed = true
      · exact hplaced _ _ _ hu hp
      · exact RVe_of_RVs (RVs.ext hE hm (fun j b k e' => hk (.slot u j) (fun e2 => by cases p with | slot t => simp [locOf] at e2; exact e (by rw [e2.1]) | cell o off => simp [locOf] at e2) b k e') (RVs_of_RVe (by simpa using hp) hu))
  · obtain ⟨c, hc', hne⟩ := hu
    rw [hent] at hc'
    by_cases e : Place.slot u = p
    · refine h.bound u ⟨.own xs l0, ?_, by simp⟩
      rw [← e] at hc; exact hc
    · simp only [e, if_false] at hc'
      exact h.bound u ⟨c, hc', hne⟩
  · cases p with
    | slot t =>
      obtain ⟨b, cur, e, hb, hg, hw, hn, hh⟩ := h.heap o cs hcs
      obtain ⟨k1, k2⟩ := hk (.blk o) (by simp [locOf]) b 0 hg
      exact ⟨b, cur, e, hm o b hb, k1, k2.trans hw, hn, fun j c hj => ⟨RVl.ext hE hm (fun b k e => hk (.cell o j) (by simp [locOf]) b k e) (hh j c hj).1, (hh j c hj).2⟩⟩
    | cell o1 off =>
      simp only [lendPlace, heap_setCellA] at hcs
      by_cases e : o1 = o
      · subst e
        obtain ⟨cs0, h1, h2⟩ := content_cell hc (by simp)
        simp only [if_true, h1, Option.map_some, Option.some.injEq] at hcs
        subst hcs
        obtain ⟨b, cur, e, hb, hg, hw, hn, hh⟩ := h.heap o1 cs0 h1
        obtain ⟨k1, k2⟩ := hk (.blk o1) (by simp [locOf]) b 0 hg
        refine ⟨b, cur, e, hm o1 b hb, k1, k2.trans hw, by simpa using hn, fun j c hj => ?_⟩
        rw [List.getElem?_set] at hj
        by_cases ej : off = j
        · subst ej
          have hlt := (List.getElem?_eq_some_iff.1 h2).1
          simp [hlt] at hj
          subst hj
          refine ⟨?_, (hh off _ h2).2⟩
          have hcur : off < cur.size := by omega
          have hval : cur.getD off undef = val := by
            simp only [cval, hb] at hv
            rw [cell_of_row w b off cur e (0, 0) hw] at hv
            simp [Array.getD_eq_getD_getElem?, hv]
          rw [hval]
          exact ho
        · simp only [ej, if_false] at hj
          exact ⟨RVl.ext hE hm (fun b k e => hk (.cell o1 j) (by simp [locOf]; exact fun e3 => ej e3.symm) b k e) (hh j c hj).1, (hh j c hj).2⟩
      · simp only [e, if_false] at hcs
        obtain ⟨b, cur, e', hb, hg, hw, hn, hh⟩ := h.heap o cs hcs
        obtain ⟨k1, k2⟩ := hk (.blk o) (by simp [locOf]) b 0 hg
        exact ⟨b, cur, e', hm o b hb, k1, k2.trans hw, hn, fun j c hj => ⟨RVl.ext hE hm (fun b k e2 => hk (.cell o j) (by simp [locOf]; exact fun e3 => absurd e3.symm e) b k e2) (hh j c hj).1, (hh j c hj).2⟩⟩
  · obtain ⟨u, h1, h2, h3⟩ := h.glob g cs hg j c hj
    exact ⟨u, (hE.point h1 h2).1, (hE.point h1 h2).2, hE.rep h3⟩

/-- A view of what is owned at a place goes out. -/
theorem Rel.lend {E : Env0} {X : Cx} {s : St} {a : Act} {w : World} (h : Rel E X s a w) {p : Place} {xs : List D} (hc : content s p = .own xs false) :
    ∃ X' val, cval X a w p = some val ∧ X'.mu = X.mu ∧ Ext X w X' w ∧ Rel E X' (lendPlace s p (.own xs true)) a w ∧ Rep w X'.imm (.list xs) val ∧ (∀ l, l ≠ locOf p → KeptAt X w X' w l) := by
  obtain ⟨val, hv, hr⟩ := h.place hc (by simp) rfl (by simp) (by simp)
  obtain ⟨X', hmu, hamb, hE, ho, hG, hO⟩ := OwnOk.lend hr
  have hk : ∀ l, l ≠ locOf p → KeptAt X w X' w l := fun l hl b k e => ⟨hO b l k hl e, rfl⟩
  have hoamb : ∀ b l k, X'.G b = some (l, k) → ∀ o, X'.amb b o := fun b l k e o => by
    obtain ⟨k', e'⟩ := hG b l k e
    rw [hamb]; exact h.oamb b l k' e' o
  exact ⟨X', val, hv, hmu, hE, h.ownUpdate hc hv hmu hE hk (fun b l k e => ⟨let ⟨k', e'⟩ := hG b l k e; h.gdom b l k' e', hoamb b l k e⟩) ho (fun sz hs => hs), OwnOk.view hoamb ho, hk⟩

theorem RVl.copy {w : World} {X : Cx} {l l' : Loc} {c : AV} {v : Value} (ho : c.isOwn = false) (h : RVl w X l c v) : RVl w X l' c v := by
  cases c with
  | own xs lt => cases ho
  | _ => exact h
theorem RVs.copy {w : World} {X : Cx} {L L' : Nat → Loc} {c : AV} {v : Value} (ho : c.isOwn = false) (ha : ∀ cs, c ≠ .agg cs) (h : RVs w X L c v) : RVs w X L' c v := by
  cases c with
  | own xs lt => cases ho
  | agg cs => exact absurd rfl (ha cs)
  | tup cs => obtain ⟨vs, h1, h2, h3⟩ := h; exact ⟨vs, h1, h2, fun j c hj => ⟨(h3 j c hj).1, RVl.copy (h3 j c hj).1 (h3 j c hj).2⟩⟩
  | _ => exact h

/-- A place is read. -/
theorem readPlace_sound {E : Env0} {X : Cx} {s s1 : St} {a : Act} {w : World} {r : Result Next} {fl : Flag} {q : Bool} {p : Place} {v : AV} {val : Value} (h : Rel E X s a w)
    (hp : readPlace fl q s p = some (v, s1)) (hv : ∀ u, cval X a w p = some u → u = val) (hr : r = .ok (.value val) w) (htup : ∀ cs, content s p = .tup cs → RVs w X .res (.tup cs) val) (helt : ∀ q i off, content s p = .elt q i off → RVe X s a w .res (.elt q i off) val) : Sound E X a w r v s1 := by
  unfold readPlace at hp
  generalize hc : content s p = c at hp
  cases c with
  | undef => cases hp
  | skipped => cases hp
  | loc q => cases hp
  | elt q i off =>
    simp only [Option.some.injEq, Prod.mk.injEq] at hp
    obtain ⟨rfl, rfl⟩ := hp
    exact Sound.same h hr (helt q i off hc)
  | agg cs => cases hp
  | own xs l =>
    obtain ⟨u, hu, hru⟩ := h.place hc (by simp) rfl (by simp) (by simp)
    obtain rfl := hv u hu
    cases fl with
    | keep =>
      simp only [Option.some.injEq, Prod.mk.injEq] at hp
      obtain ⟨rfl, rfl⟩ := hp
      exact Sound.same h hr ⟨fun o off e => (by subst e; obtain ⟨cs, h1, _⟩ := content_cell hc (by simp); exact (List.getElem?_eq_some_iff.1 h1).1), fun _ => hu⟩
    | view =>
      simp only at hp
      cases l with
      | true =>
        simp only [if_true, Option.some.injEq, Prod.mk.injEq] at hp
        obtain ⟨rfl, rfl⟩ := hp
        exact Sound.same h hr (RVe_d (OwnOk.view h.oamb hru))
      | false =>
        cases q with
        | true => simp at hp
        | false =>
          simp only [Bool.false_eq_true, if_false, Option.some.injEq, Prod.mk.injEq] at hp
          obtain ⟨rfl, rfl⟩ := hp
          obtain ⟨X', u', hu', hmu, hE, hR, hrep, _⟩ := h.lend hc
          obtain rfl := hv u' hu'
          exact ⟨u', w, X', hr, ⟨[], by simp [hmu]⟩, hE, hR, RVe_d hrep⟩
  | tup cs =>
    simp only [Option.some.injEq, Prod.mk.injEq] at hp
    obtain ⟨rfl, rfl⟩ := hp
    exact Sound.same h hr (htup cs hc)
  | d x =>
    obtain ⟨u, hu, hru⟩ := h.place hc (by simp) rfl (by simp) (by simp)
    obtain rfl := hv u hu
    simp only [Option.some.injEq, Prod.mk.injEq] at hp
    obtain ⟨rfl, rfl⟩ := hp
    exact Sound.same h hr hru
  | ptr o off =>
    obtain ⟨u, hu, hru⟩ := h.place hc (by simp) rfl (by simp) (by simp)
    obtain rfl := hv u hu
    simp only [Option.some.injEq, Prod.mk.injEq] at hp
    obtain ⟨rfl, rfl⟩ := hp
    exact Sound.same h hr hru
  | view cs =>
    obtain ⟨u, hu, hru⟩ := h.place hc (by simp) rfl (by simp) (by simp)
    obtain rfl := hv u hu
    simp only [Option.some.injEq, Prod.mk.injEq] at hp
    obtain ⟨rfl, rfl⟩ := hp
    exact Sound.same h hr hru
  | fn f caps =>
    obtain ⟨u, hu, hru⟩ := h.place hc (by simp) rfl (by simp) (by simp)
    obtain rfl := hv u hu
    simp only [Option.some.injEq, Prod.mk.injEq] at hp
    obtain ⟨rfl, rfl⟩ := hp
    exact Sound.same h hr hru

/-- 'move' of a slot. -/
theorem move_sound {E : Env0} {X : Cx} {s s1 : St} {a : Act} {w : World} {fl : Flag} {q : Bool} {t : Nat} {v : AV} (h : Rel E X s a w) (o : Oper) (ho : o.op = .move (.tmp t))
    (hp : readPlace fl q s (.slot t) = some (v, s1)) : Sound E X a w ((execOp a.eval o).run E.P w) v s1 := by
  refine readPlace_sound (val := a.tmps.getD t undef) h hp (fun u hu => ?_) (by simp [execOp, ho, Act.eval]) (fun cs hc => ?_) (fun q i off hc => ?_)
  · simp only [cval] at hu; simp [Array.getD_eq_getD_getElem?, hu]
  · have ht := h.env t
    simp only [content] at hc
    rw [hc] at ht
    exact RVs.copy rfl (by simp) ht
  · have ht := h.env t
    simp only [content] at hc
    rw [hc] at ht
    exact ht

/-- A value moved on: its temporary is used up. -/
theorem Rel.take {E : Env0} {X : Cx} {s : St} {a : Act} {w : World} (h : Rel E X s a w) {x : Operand} {v : AV} (hx : movable (ev E s x) = some v) (off : Nat) :
    ∃ X', X'.mu = X.mu ∧ Ext X w X' w ∧ Rel E X' (s.del (tmpOf x)) a w ∧ RVs w X' (fun j => .res (off + j)) v (a.eval x) ∧ (∀ l, (∀ t j, x = .tmp t → l ≠ .slot t j) → KeptAt X w X' w l) ∧
      (∀ b l k, X'.G b = some (l, k) → ∃ l0, X.G b = some (l0, k)) ∧ (∀ (c : AV) L L' val, c.placed = true → RVe X s a w L c val → RVe X' (s.del (tmpOf x)) a w L' c val) := by
  have hmv : ∀ c : AV, movable c = some v → v = c ∧ c.placed = false ∧ c ≠ .undef ∧ c ≠ .skipped := by
    intro c hc
    cases c <;> simp [movable] at hc <;> simp [← hc, AV.placed]
  obtain ⟨rfl, hpl, hun, hsk⟩ := hmv _ hx
  have hsame : ∀ (hd : s.del (tmpOf x) = s), RVs w X (fun j => .res (off + j)) (ev E s x) (a.eval x) → _ := fun hd hr =>
    (⟨X, rfl, Ext.refl X w, by rw [hd]; exact h, hr, fun l _ b k e => ⟨e, rfl⟩, fun b l k e => ⟨l, e⟩, fun c L L' val hp hr' => by rw [hd]; cases c <;> first | exact hr' | cases hp⟩ : ∃ X', X'.mu = X.mu ∧ Ext X w X' w ∧ Rel E X' (s.del (tmpOf x)) a w ∧ RVs w X' (fun j => .res (off + j)) (ev E s x) (a.eval x) ∧ (∀ l, (∀ t j, x = .tmp t → l ≠ .slot t j) → KeptAt X w X' w l) ∧
      (∀ b l k, X'.G b = some (l, k) → ∃ l0, X.G b = some (l0, k)) ∧ (∀ (c : AV) L L' val, c.placed = true → RVe X s a w L c val → RVe X' (s.del (tmpOf x)) a w L' c val))
  cases x with
  | const c => exact hsame rfl (constAV_rel w X _ c)
  | func f => exact hsame rfl ⟨#[], rfl, rfl, fun j o a hj => by simp at hj⟩
  | global g =>
    refine hsame rfl ?_
    simp only [ev]
    split
    · rename_i cs hg
      exact ⟨g, 0, rfl, fun j c hj => by simpa using h.glob g cs hg j c hj⟩
    · trivial
  | tmp t =>
    simp only [ev] at hpl hun hsk ⊢
    have ht := h.env t
    have hb := h.bound t ⟨_, rfl, hun⟩
    let φ : Loc → Option Loc := fun
      | .slot t' j => if t' = t then some (.res (off + j)) else some (.slot t' j)
      | l => some l
    -- first the slot's content is moved to 'res', then the slot is cleared
    have hE := Ext.remap X w φ
    have hm : ∀ (o : Nat) b, X.mu[o]? = some b → (X.remap φ).mu[o]? = some b := fun o b e => e
    have hk : ∀ l, (∀ j, l ≠ .slot t j) → KeptAt X w (X.remap φ) w l := by
      intro l h2 b k e
      refine ⟨?_, rfl⟩
      rw [Cx.remap_some e]
      cases l with
      | slot t' j =>
        have : t' ≠ t := fun e => h2 j (by rw [e])
        simp [φ, this]
      | _ => rfl
    have hent : ∀ u, get (s.del [t]).env u = if t = u then .undef else if (get s.env t).isOwn && (get s.env u).sitsAt t then .undef else get s.env u := by
      intro u
      simp only [St.del, get_putE, show AV.undef.isOwn = false from rfl, Bool.or_false]
    have hct : ∀ p, (content (s.del [t]) p).isOwn = true → content (s.del [t]) p = content s p ∧ p ≠ .slot t := by
      intro p ho
      cases p with
      | slot u =>
        simp only [content, hent] at ho ⊢
        by_cases e : t = u
        · simp [e] at ho; cases ho
        · simp only [e, if_false] at ho ⊢
          refine ⟨?_, fun e2 => e (by cases e2; rfl)⟩
          split at ho
          · cases ho
          · rename_i hn; simp only [hn]; rfl
      | cell o off' => exact ⟨rfl, by simp⟩
    have hplaced : ∀ (c : AV) L L' val, c.placed = true → RVe X s a w L c val → RVe (X.remap φ) (s.del [t]) a w L' c val := by
      intro c L L' val hp hu
      cases c with
      | loc p =>
        refine ⟨hu.1, fun ho => ?_⟩
        obtain ⟨e1, e2⟩ := hct p ho
        have : cval (X.remap φ) a w p = cval X a w p := by cases p <;> rfl
        rw [this]
        exact hu.2 (by rw [← e1]; exact ho)
      | elt p i o' =>
        refine ⟨hu.1, fun xs l ho => ?_⟩
        obtain ⟨e1, e2⟩ := hct p (by rw [ho]; rfl)
        have : cval (X.remap φ) a w p = cval X a w p := by cases p <;> rfl
        rw [this]
        exact hu.2 xs l (by rw [← e1]; exact ho)
      | _ => cases hp
    refine ⟨X.remap φ, rfl, hE, ⟨fun u => ?_, fun u hu => ?_, h.mu, fun o cs hcs => ?_, fun b l k e => ?_, h.amb, fun b l k e => ?_, fun g cs hg j c hj => ?_, h.defers⟩,
      RVs.ext hE hm (fun j b k e => ⟨by rw [Cx.remap_some e]; simp [φ], rfl⟩) (RVs_of_RVe hpl ht), fun l hl => hk l (fun j => hl t j rfl), fun b l k e => ?_, hplaced⟩
    · show RVe _ (s.del [t]) a w _ (get (s.del [t]).env u) _
      rw [hent]
      by_cases e : t = u
      · simp only [e, if_true]; trivial
      · simp only [e, if_false]
        by_cases hkill : ((get s.env t).isOwn && (get s.env u).sitsAt t) = true
        · simp only [hkill, if_true]; trivial
        · simp only [hkill]
          have hu := h.env u
          generalize get s.env u = c at hu hkill
          by_cases hp : c.placed = true
          · exact hplaced c _ _ _ hp hu
          · exact RVe_of_RVs (RVs.ext hE hm (fun j b k e' => hk (.slot u j) (fun _ => by simp; exact fun e2 => absurd e2.symm e) b k e') (RVs_of_RVe (by simpa using hp) hu))
    · obtain ⟨c, hc, hne⟩ := hu
      rw [show (s.del (tmpOf (.tmp t))) = s.del [t] from rfl, hent] at hc
      by_cases e : t = u
      · simp [e] at hc; exact absurd hc.symm hne
      · simp only [e, if_false] at hc
        split at hc
        · exact absurd hc.symm hne
        · exact h.bound u ⟨c, hc, hne⟩
    · obtain ⟨b, cur, e, hb', hg, hw, hn, hh⟩ := h.heap o cs hcs
      exact ⟨b, cur, e, hb', (hk (.blk o) (fun _ => by simp) b 0 hg).1, hw, hn, fun j c hj => ⟨RVl.ext hE hm (fun b k e => hk (.cell o j) (fun _ => by simp) b k e) (hh j c hj).1, (hh j c hj).2⟩⟩
    · simp only [Cx.remap] at e
      split at e
      · rename_i l0 k0 h0; exact h.gdom b l0 k0 h0
      · cases e
    · simp only [Cx.remap] at e
      split at e
      · rename_i l0 k0 h0; exact h.oamb b l0 k0 h0
      · cases e
    · obtain ⟨u, h1, h2, h3⟩ := h.glob g cs hg j c hj
      exact ⟨u, (hE.point h1 h2).1, (hE.point h1 h2).2, hE.rep h3⟩
    · simp only [Cx.remap] at e
      split at e
      · rename_i l0 k0 h0
        cases hl : φ l0 with
        | none => simp [hl] at e
        | some l1 => simp [hl] at e; exact ⟨l0, by rw [h0, e.2]⟩
      · cases e

end Go.Ab
